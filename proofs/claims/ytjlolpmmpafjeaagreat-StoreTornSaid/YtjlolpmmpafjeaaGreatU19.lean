import Derived.Test.YtjlolpmmpafjeaaGreatU18
set_option linter.unusedVariables false
set_option linter.unusedSimpArgs false
namespace Go.Proofs.YtjlolpmmpafjeaaGreat
open CN
variable (D : Nat → Prop) (w : World)
abbrev II (jb g : Nat) (s : E1) (q : DA) : List Value := [.pointer (some ⟨jb, 0, none⟩), .pointer (some ⟨g, 0, none⟩), .int .i64 s.c.1, .int .i64 s.c.2.1, .int .i64 s.c.2.2.1, .slice q.1.1 s.c.2.2.2.1.length q.1.2, .slice q.2.1.1 s.c.2.2.2.2.1.length q.2.1.2, .slice q.2.2.1 s.c.2.2.2.2.2.length q.2.2.2, .int .u32 (s.ep : Int)]
def iF (sb g m : Nat) (s : E1) (x : Nat × DA) : List AQ := AI sb 120 (II x.1 g s x.2) :: E7 x.1 g 32 m s.ep (32 + s.k) (s.Ls.map AW) :: C6 s.c x.2
def GX (sb g m : Nat) (s : E1) : AQ := GQ (iF sb g m s)
theorem MY {sb g m : Nat} {s : E1} {l : List AQ} (jb : Nat) (q : DA) : AD (AI sb 120 (II jb g s q) :: E7 jb g 32 m s.ep (32 + s.k) (s.Ls.map AW) :: (C6 s.c q ++ l)) (GX sb g m s :: l) := AD.GQ (L := iF sb g m s) (l := l) (jb, q)
theorem V1 (sb g m : Nat) (s : E1) (H : AH D w w [GX sb g m s]) : Calls Tryz.prog 32 #[.pointer (some ⟨sb, 0, none⟩)] w fun e w' => e = .returned (.int .u32 (s.ep : Int)) ∧ AH D w w' [GX sb g m s] := by
 refine BZ (vs := [.pointer (some ⟨sb, 0, none⟩)]) Tryz.func32 rfl _ Tryz.ntmps32 rfl H ?_
 simp only [BX, Nat.zero_add]
 refine HC.exs ?_
 rintro ⟨jb, q⟩
 refine HC.AK (l' := AI sb 120 (II jb g s q) :: E7 jb g 32 m s.ep (32 + s.k) (s.Ls.map AW) :: C6 s.c q) (fun _ h => h) ?_
 refine zg <| zs rfl <| zn <| AG <| zg <| zm rfl <| zv (IL rfl rfl) <| zn <| EU rfl <| zk <| zg <| zm rfl <| zv (AY rfl) <| zf rfl <| zl rfl rfl <| zs rfl <| zn <| zq <| ?_
 exact zz rfl rfl fun w' H' => ⟨rfl, H'.AK (MY (l := []) jb q)⟩
theorem VU (sb g m : Nat) (s : E1) (hok : JH s.c) (H : AH D w w [GX sb g m s]) : Calls Tryz.prog 26 #[.pointer (some ⟨sb, 0, none⟩)] w fun e w' => ∃ q : DA, e = .returned (.agg (B3 s.c q).toArray) ∧ AH D w w' (GX sb g m s :: C6 s.c q) := by
 refine BZ (vs := [.pointer (some ⟨sb, 0, none⟩)]) Tryz.func26 rfl _ Tryz.ntmps26 rfl H ?_
 simp only [BX, Nat.zero_add]
 refine HC.exs ?_
 rintro ⟨jb, q⟩
 refine HC.AK (l' := AI sb 120 (II jb g s q) :: E7 jb g 32 m s.ep (32 + s.k) (s.Ls.map AW) :: C6 s.c q) (fun _ h => h) ?_
 refine zg <| AV (B9) rfl rfl rfl fun b2 =>
  zn <| AG <| ?_
 refine zg <| zm rfl <| zv (IL rfl rfl) <| zn <| EU rfl <| zk <| zg <| zm rfl <| zv (AY rfl) <| zf rfl <| ?_
 refine AZ (MI (vs := B3 s.c q) rfl rfl) rfl <| CQ (σ := DA) Tryz.call65 rfl rfl (fun w1 => zu fun D' _ hin _ => bC D' w1 s.c _ _ _ (ER.rows (q := q) hok hin)) ?_
 intro q2
 try rw [List.nil_append]
 refine A6 (CV (vs := B3 s.c q2) rfl rfl rfl (by simp) CL) rfl rfl ?_
 refine zn <| zq <| ?_
 exact IU (.inr rfl) rfl rfl (by simp) fun w' H' => ⟨q2, rfl, H'.AK (AD.trans (b := AI sb 120 (II jb g s q) :: E7 jb g 32 m s.ep (32 + s.k) (s.Ls.map AW) :: (C6 s.c q ++ C6 s.c q2)) Z8 (MY jb q))⟩
set_option maxHeartbeats 1000000 in
theorem ZC (sb g m : Nat) (s : E1) (h : SI m s) (hep : s.ep < 4294967290) (H : AH D w w [GX sb g m s, BR g s.S []]) : Calls Tryz.prog 31 #[.pointer (some ⟨sb, 0, none⟩)] w fun e w' => e = .returned (.int .i64 0) ∧ AH D w w' [GX sb g m (H8 s), BR g (H8 s).S []] := by
 have hlen := h.len
 have hm := h.m40
 refine BZ (vs := [.pointer (some ⟨sb, 0, none⟩)]) Tryz.func31 rfl _ Tryz.ntmps31 rfl H ?_
 simp only [BX, Nat.zero_add]
 refine HC.exs ?_
 rintro ⟨jb, q⟩
 refine HC.AK (l' := AI sb 120 (II jb g s q) :: E7 jb g 32 m s.ep (32 + s.k) (s.Ls.map AW) :: (C6 s.c q ++ [BR g s.S []])) (fun _ h => h) ?_
 refine zg <| zs rfl <| zn <| AG <| zg <| zm rfl <| zv (IL rfl rfl) <| zn <| EU rfl <| zk <| AG <| AG <| EF [AI sb 120 (II jb g s q)] mixed 15 rfl ?_
 refine AE 0 rfl (AO rfl) rfl <| AE 1 rfl (AY rfl) rfl <| AE 2 rfl (AP rfl) rfl <| AE 3 rfl (zw rfl rfl) rfl <| AE 4 rfl (AO rfl) rfl <| AE 5 rfl (AY rfl) rfl <| AE 6 rfl (AP rfl) rfl <| AE 7 rfl (zw rfl rfl) rfl <| AE 8 rfl (BM rfl rfl NP) rfl <| ?_
 refine AE 9 rfl (AO rfl) rfl <| AE 10 rfl (AY rfl) rfl <| AE 11 rfl (AP rfl) rfl <| AL 12 AB <| CW rfl (MI (vs := B3 s.c q) rfl rfl) rfl <| AL 13 AB <| CY rfl Tryz.call69 rfl (fun w1 => zp (BR g s.S []) fun D' _ hin H2 => aI D' w1 g (s.ep + 1) s.S s.c _ _ _ AA h.gc AA (ER.rows (q := q) h.okc hin) H2) ?_
 refine AE 14 rfl (DH rfl) rfl <| BY AB <| zt <| zg <| zm rfl <| zv (CG rfl rfl) <| ?_
 refine zn <| CP rfl ((fun h => h rfl)) <| zk <| zg <| zm rfl <| zv (AY rfl) <| zf rfl <| zl rfl rfl <| ?_
 refine AZ (BM (m := ((s.ep + 1 : Nat) : Int)) rfl rfl ((wrap_u32 AA).trans AA)) rfl ?_
 refine zv (AY rfl) <| zf rfl <| A6 (DN rfl rfl rfl rfl rfl) rfl rfl <| zn <| AG <| ?_
 refine HC.AK (l' := AI sb 120 (II jb g (H8 s) q) :: BR g (H8 s).S [] :: E7 jb g 32 m s.ep (32 + s.k) (s.Ls.map AW) :: C6 s.c q) (fun _ h => h) ?_
 refine EF [AI sb 120 (II jb g (H8 s) q)] mixed 9 rfl ?_
 refine AE 0 rfl (AO rfl) rfl <| AE 1 rfl (AY rfl) rfl <| AE 2 rfl (AP rfl) rfl <| AE 3 rfl (zw rfl rfl) rfl <| AE 4 rfl (AO rfl) rfl <| AE 5 rfl (AY rfl) rfl <| AE 6 rfl (AP rfl) rfl <| AE 7 rfl (zw rfl rfl) rfl <| AL 8 AB <| CY rfl Tryz.call70 rfl (fun w1 => zp (E7 jb g 32 m s.ep (32 + s.k) (s.Ls.map AW)) fun D' _ _ H2 => nD D' w1 jb g 32 m s.ep (32 + s.k) (s.Ls.map AW) (s.ep + 1) H2) ?_
 refine BY AB <| zt <| zg <| zs rfl <| AS <| ?_
 refine zt <| zq <| ?_
 exact zz rfl rfl fun w' H' => ⟨rfl, H'.AK (AD.trans (b := AI sb 120 (II jb g (H8 s) q) :: E7 jb g 32 m (s.ep + 1) 32 [] :: (C6 s.c q ++ [BR g (H8 s).S []])) Z8 (MY (s := H8 s) jb q))⟩
set_option maxHeartbeats 1000000 in
theorem bR (g m : Nat) (Sa : List BA) (s : E1) (p : Nat) (h : SI m s) (hm2 : m ≤ 100000) (hep : s.ep < 4294967296) (h1 : 1 ≤ p) (h8 : p ≤ 8) (hp : s.c0.2.2.2.1.length = p) (hSa : Sa.length = m)
  (hb : ∀ D w, AH D w w [BR g Sa []] → Calls Tryz.prog 45 #[.pointer (some ⟨g, 0, none⟩), .int .i64 (p : Int)] w fun e w' => ∃ q : Option Addr × Nat, e = .returned (.tuple #[.int .u32 (s.ep : Int), .slice q.1 (C8 s.c0).length q.2, .int .i64 0]) ∧ AH D w w' [BR g s.S [], row q.1 5 1 (C8 s.c0).length q.2 ((C8 s.c0).map AU)])
  (H : AH D w w [BR g Sa []]) : Calls Tryz.prog 17 #[.pointer (some ⟨g, 0, none⟩), .int .i64 (p : Int)] w fun e w' => ∃ sb : Nat, e = .returned (.tuple #[.pointer (some ⟨sb, 0, none⟩), .int .i64 0]) ∧ AH D w w' [GX sb g m s, BR g s.S []] := by
 have hlen := h.len
 have hm := h.m40
 have hk := h.KS
 have hmany := h.many
 have hreg := h.S8
 have hE : E9 s.ep (m - 32) 0 (FI s.S) = (s.Ls.map AW, s.k) := by
  have := h.ji.open hep AA
  rwa [hreg] at this
 have hT : FI s.S = (s.S.drop 32).take (m - 32) := by
  show s.S.drop 32 = _
  rw [List.take_of_length_le MG]
 have hsml : ∀ x ∈ s.Ls.map AW, x.length ≤ 1000000 := fun x hx => by
  obtain ⟨l, hl, rfl⟩ := List.mem_map.1 hx
  have := OO (h.oks l hl).1.1
  omega
 have hml : (s.Ls.map AW).length = s.Ls.length := List.length_map _
 refine BZ (vs := [.pointer (some ⟨g, 0, none⟩), .int .i64 (p : Int)]) Tryz.func17 rfl _ Tryz.ntmps17 rfl H ?_
 simp only [BX, Nat.zero_add]
 refine zg <| zs rfl <| zs rfl <| zn <| AG <| zg <| zm rfl <| B2 Tryz.call44 rfl rfl (fun w1 => zp (BR g Sa []) fun D' _ _ H2 => SE D' w1 g Sa [] H2) ?_
 refine zv (B7 rfl rfl) <| zm rfl <| F0 (t := 14) rfl (AA) ?_
 refine AJ rfl rfl <| zm rfl <| AJ rfl rfl <| zv (B7 rfl rfl) <| zv (A8 rfl rfl) <| zm rfl <| F0 (t := 18) rfl (AA) ?_
 refine AJ rfl rfl <| zm rfl <| AJ rfl rfl <| zv (DV rfl rfl) <| zv (A8 rfl rfl) <| zn <| CP rfl (AA) ?_
 refine zk <| zg <| zm rfl <| zm rfl <| CQ (σ := Option Addr × Nat) Tryz.call45 rfl rfl (fun w1 => EZ (BR g Sa []) fun D' _ _ H2 => hb D' w1 H2) ?_
 intro qb
 refine zm rfl <| zx rfl rfl <| zx rfl rfl <| zx rfl rfl <| zs rfl <| zs rfl <| zs rfl <| zn <| AG <| zg <| zm rfl <| zv (CG rfl rfl) <| zn <| CP rfl ((fun h => h rfl)) <| zk <| zg <| zm rfl <| CQ (σ := DA) Tryz.call46 rfl rfl (fun w1 => zu fun D' _ hin _ => rA D' w1 _ s.c0 h.g0 (hin _ fun h hs ho => C7 (A := qb.1) hs (C8 s.c0) rfl (DQ.2 rfl))) ?_
 intro qc
 try rw [List.nil_append]
 refine zm rfl <| zx rfl rfl <| zx rfl rfl <| AV (B9) rfl rfl rfl fun b9 =>  ?_
 refine A6 (CV (vs := B3 s.c0 qc) rfl rfl rfl (by simp) CL) rfl rfl ?_
 refine zs rfl <| zn <| AG <| zg <| zm rfl <| zv (CG rfl rfl) <| zm rfl <| F0 (t := 39) rfl ((fun h => h rfl)) <| AJ rfl rfl <| zf rfl <| AJ rfl rfl <| zl rfl rfl <| AJ rfl rfl <| zv BN <| ?_
 refine AJ rfl rfl <| zm rfl <| AJ rfl rfl <| zv (CG rfl rfl) <| zv (A8 rfl rfl) <| zn <| CP rfl (AA) ?_
 refine zk <| zg <| zm rfl <| zm rfl <| B2 Tryz.call44 rfl rfl (fun w1 => zp (BR g s.S []) fun D' _ _ H2 => SE D' w1 g s.S [] H2) ?_
 rw [hlen]
 refine zm rfl <| CQ (σ := Nat) Tryz.call47 rfl rfl (fun w1 => EZ (BR g s.S []) fun D' _ _ H2 => oM D' w1 g s.S 32 m (m - 32) (FI s.S) s.ep (s.Ls.map AW) s.k (32 + s.k) hE rfl AA AA AA AA hT H2) ?_
 intro jb
 refine zm rfl <| zx rfl rfl <| zx rfl rfl <| zs rfl <| zs rfl <| AS <| zt <| AG <| zg <| zm rfl <| zv (CG rfl rfl) <| zn <| CP rfl ((fun h => h rfl)) <| zk <| AG <| AG <| EF [] mixed 9 rfl ?_
 refine AE 1 rfl (AO rfl) rfl <| DE 0 2 AB ?_ ?_
 ·skip
  refine CW rfl (FV rfl rfl) rfl <| AL 2 AB <| CR (σ := Option Addr × Nat × List Value) rfl Tryz.call49 rfl (fun w1 => EZ (E7 jb g 32 m s.ep (32 + s.k) (s.Ls.map AW)) fun D' _ _ H2 => cZ D' w1 jb g 32 m s.ep (32 + s.k) (s.Ls.map AW) AA hsml H2) ?_
  rintro ⟨A7, cap7, cs7⟩
  refine AL 3 AB <| CR (σ := DA) rfl Tryz.call48 rfl (fun w1 H1 => AH.fD (row qc.1.1 83 3 s.c0.2.2.2.1.length qc.1.2 (s.c0.2.2.2.1.flatMap CJ)) (row qc.2.1.1 147 3 s.c0.2.2.2.2.1.length qc.2.1.2 (s.c0.2.2.2.2.1.flatMap BJ)) (row qc.2.2.1 149 3 s.c0.2.2.2.2.2.length qc.2.2.2 (s.c0.2.2.2.2.2.flatMap BW)) H1 fun D' _ hin H2 => YK D' w1 s.c0 qc _ s.Ls s.c h.ok0 h.rep h.oks (hin _ fun h hs ho => C7 (A := A7) hs (s.Ls.map AW) rfl (PE (t := 5) (xs := s.Ls.map AW) (cs := cs7) hs)) H2) ?_
  intro qd
  refine AE 4 rfl (AO rfl) rfl <| AE 5 rfl (I9 rfl rfl) rfl <| AE 6 rfl (I9 rfl rfl) rfl <| AL 7 AB <| CB rfl (CV (vs := B3 s.c qd) rfl rfl rfl (by simp) CL) rfl ?_
  refine AE 8 rfl (DH rfl) rfl <| BY AB <| ?_
  refine zt <| zg <| zm rfl <| zv (CG rfl rfl) <| AS <| zt <| CP rfl ((fun h => h rfl)) <| zk <| zg <| zm rfl <| zm rfl <| AZ (FV rfl rfl) rfl ?_
  dsimp only [List.getElem_toArray, List.getElem_cons_zero, List.getElem_cons_succ]
  refine zm rfl <| zv (CH rfl rfl) <| ?_
  refine AV (EE rfl rfl) rfl rfl rfl fun b72 =>  ?_
  refine zs rfl <| zs rfl <| zn <| zq <| ?_
  exact E5 (.inr rfl) rfl rfl rfl fun w' H' => ⟨b72, rfl, H'.AK (AD.trans (b := AI b72 120 (II jb g s qd) :: E7 jb g 32 m s.ep (32 + s.k) (s.Ls.map AW) :: (C6 s.c qd ++ [BR g s.S []])) Z8 (MY jb qd))⟩
 skip
 refine CR (σ := Option Addr × Nat × List Value) rfl Tryz.call49 rfl (fun w1 => EZ (E7 jb g 32 m s.ep (32 + s.k) (s.Ls.map AW)) fun D' _ _ H2 => cZ D' w1 jb g 32 m s.ep (32 + s.k) (s.Ls.map AW) AA hsml H2) ?_
 rintro ⟨A7, cap7, cs7⟩
 refine AL 0 AB <| CW rfl (FV rfl rfl) rfl <| AL 3 AB <| CR (σ := DA) rfl Tryz.call48 rfl (fun w1 H1 => AH.fD (row qc.1.1 83 3 s.c0.2.2.2.1.length qc.1.2 (s.c0.2.2.2.1.flatMap CJ)) (row qc.2.1.1 147 3 s.c0.2.2.2.2.1.length qc.2.1.2 (s.c0.2.2.2.2.1.flatMap BJ)) (row qc.2.2.1 149 3 s.c0.2.2.2.2.2.length qc.2.2.2 (s.c0.2.2.2.2.2.flatMap BW)) H1 fun D' _ hin H2 => YK D' w1 s.c0 qc _ s.Ls s.c h.ok0 h.rep h.oks (hin _ fun h hs ho => C7 (A := A7) hs (s.Ls.map AW) rfl (PE (t := 5) (xs := s.Ls.map AW) (cs := cs7) hs)) H2) ?_
 intro qd
 refine AE 4 rfl (AO rfl) rfl <| AE 5 rfl (I9 rfl rfl) rfl <| AE 6 rfl (I9 rfl rfl) rfl <| AL 7 AB <| CB rfl (CV (vs := B3 s.c qd) rfl rfl rfl (by simp) CL) rfl ?_
 refine AE 8 rfl (DH rfl) rfl <| BY AB <| ?_
 refine zt <| zg <| zm rfl <| zv (CG rfl rfl) <| AS <| zt <| CP rfl ((fun h => h rfl)) <| zk <| zg <| zm rfl <| zm rfl <| AZ (FV rfl rfl) rfl ?_
 dsimp only [List.getElem_toArray, List.getElem_cons_zero, List.getElem_cons_succ]
 refine zm rfl <| zv (CH rfl rfl) <| ?_
 refine AV (EE rfl rfl) rfl rfl rfl fun b72 =>  ?_
 refine zs rfl <| zs rfl <| zn <| zq <| ?_
 exact E5 (.inr rfl) rfl rfl rfl fun w' H' => ⟨b72, rfl, H'.AK (AD.trans (b := AI b72 120 (II jb g s qd) :: E7 jb g 32 m s.ep (32 + s.k) (s.Ls.map AW) :: (C6 s.c qd ++ [BR g s.S []])) Z8 (MY jb qd))⟩
theorem bU (g m : Nat) (s : E1) (p : Nat) (h : SI m s) (hm2 : m ≤ 100000) (hep : s.ep < 4294967296) (h1 : 1 ≤ p) (h8 : p ≤ 8) (hp : s.c0.2.2.2.1.length = p) (H : AH D w w [BR g s.S []]) :
  Calls Tryz.prog 17 #[.pointer (some ⟨g, 0, none⟩), .int .i64 (p : Int)] w fun e w' => ∃ sb : Nat, e = .returned (.tuple #[.pointer (some ⟨sb, 0, none⟩), .int .i64 0]) ∧ AH D w w' [GX sb g m s, BR g s.S []] :=
 bR D w g m s.S s p h hm2 hep h1 h8 hp h.len (fun D w H => mV D w g p s.S s.ep (C8 s.c0) (by have := h.len; have := h.m40; omega) h.ld H) H
theorem aW (g m p : Nat) (hm : 40 ≤ m) (hm2 : m ≤ 100000) (h1 : 1 ≤ p) (h8 : p ≤ 8) (S : List BA) (hS : S = List.replicate m FP) (H : AH D w w [BR g S []]) :
  Calls Tryz.prog 17 #[.pointer (some ⟨g, 0, none⟩), .int .i64 (p : Int)] w fun e w' => ∃ sb : Nat, e = .returned (.tuple #[.pointer (some ⟨sb, 0, none⟩), .int .i64 0]) ∧ AH D w w' [GX sb g m (KZ m p), BR g (KZ m p).S []] := by
 have hl : S.length = m := by rw [hS]; exact List.length_replicate
 have hok := R2 hm h1 h8
 refine bR D w g m S (KZ m p) p hok hm2 (show 1 < 4294967296 by decide) h1 h8 List.length_replicate hl (fun D w H => ?_) H
 exact l6 D w g p S (KZ m p).S AA h1 h8 (Y7 (by rw [hS]; exact WO AA)) (by rw [hS]; rfl) hok.ld H
set_option maxHeartbeats 2000000 in
theorem VZ (sb g m : Nat) (s : E1) (v : Value) (l : List C5) (h : SI m s) (hm2 : m ≤ 100000) (hep : s.ep < 4294967290) (hll : l.length ≤ 1000000) (HA : Old D w (AX.rep l [v])) (H : AH D w w [GX sb g m s, BR g s.S []]) :
  Calls Tryz.prog 19 #[.pointer (some ⟨sb, 0, none⟩), v] w fun e w' => e = .returned (.int .i64 (EC m s l).1) ∧ AH D w w' [GX sb g m (EC m s l).2, BR g (EC m s l).2.S []] := by
 obtain ⟨Al, cl, rfl, _, _, _, hfl⟩ := HA.EG
 have hlen := h.len
 have hm := h.m40
 have hk := h.KS
 have hmany := h.many
 have hml : (s.Ls.map AW).length = s.Ls.length := List.length_map _
 obtain ⟨c2, er, hed⟩ : ∃ c2 er, D9 s.c l = (c2, er) := ⟨_, _, rfl⟩
 refine BZ (vs := [.pointer (some ⟨sb, 0, none⟩), .slice Al l.length cl]) Tryz.func19 rfl _ Tryz.ntmps19 rfl H ?_
 simp only [BX, Nat.zero_add]
 refine HC.exs ?_
 rintro ⟨jb, q⟩
 refine HC.AK (l' := AI sb 120 (II jb g s q) :: E7 jb g 32 m s.ep (32 + s.k) (s.Ls.map AW) :: (C6 s.c q ++ [BR g s.S []])) (fun _ h => h) ?_
 refine zg <| zs rfl <| zn <| AG <| zg <| zm rfl <| zv (IL rfl rfl) <| zn <| EU rfl <| zk <| zg <| zm rfl <| zv (AY rfl) <| zf rfl <| ?_
 refine AZ (MI (vs := B3 s.c q) rfl rfl) rfl <| zm rfl <| CQ (σ := DA) Tryz.call56 rfl rfl (fun w1 => zu fun D' hold hin _ => e8 D' w1 s.c _ _ _ _ l c2 er hed hll (ER.rows (q := q) h.okc hin) (hold _ HA)) ?_
 intro qd
 try rw [List.nil_append]
 refine zm rfl <| zx rfl rfl <| zx rfl rfl <| AV (B9) rfl rfl rfl fun b5 =>  ?_
 refine A6 (CV (vs := B3 c2 qd) rfl rfl rfl (by simp) CL) rfl rfl ?_
 refine zs rfl <| zn <| AG <| zg <| zm rfl <| zv (CG rfl rfl) <| zn <| BP rfl (fun he => ?_) (fun he => ?_)
 ·have hc : EC m s l = (er, s) := by unfold EC; rw [hed, if_pos he]
  refine zg <| zm rfl <| zs rfl <| zn <| zq <| zr <| ?_
  exact zz rfl rfl fun w' H' => ⟨by rw [hc]; rfl, by rw [hc]; exact H'.AK (AD.trans (b := AI sb 120 (II jb g s q) :: E7 jb g 32 m s.ep (32 + s.k) (s.Ls.map AW) :: (C6 s.c q ++ [BR g s.S []])) Z8 (MY jb q))⟩
 have he : er = 0 := Classical.not_not.1 he
 subst he
 have h0 : (D9 s.c l).2 = 0 := by rw [hed]
 have hl32 : l.length ≤ 32 := (SU h0).2.1
 have hsm := OO hl32
 have hc2 : c2 = (D9 s.c l).1 := by rw [hed]
 by_cases hok : G0 l
 ·obtain ⟨n, hn⟩ : ∃ n, DG (AW l).length = n := ⟨_, rfl⟩
  refine zk <| zg <| zm rfl <| CQ (σ := Option Addr × Nat) Tryz.call57 rfl rfl (fun w1 => zu fun D' hold _ _ => rP D' w1 _ l hok (hold _ HA)) ?_
  intro qe
  try rw [List.nil_append]
  refine zm rfl <| zx rfl rfl <| zx rfl rfl <| zs rfl <| zs rfl <| AS <| zt <| AG <| zg <| zm rfl <| zv (CG rfl rfl) <| zn <| CP rfl ((fun h => h rfl)) <| zk <| AG <| zg <| zm rfl <| zv (AY rfl) <| zf rfl <| zl rfl rfl <| zm rfl <| AV (BS rfl rfl rfl) rfl rfl rfl fun b35 =>  ?_
  by_cases hfit : n ≤ m - 32 - s.k
  ·obtain ⟨sN, hsN⟩ : ∃ sN, sN = LD s l := ⟨_, rfl⟩
   have hc : EC m s l = (0, sN) := by unfold EC; rw [hed, if_neg (fun h => h rfl), if_neg (fun h => h hok), hn, if_pos hfit, hsN]
   have hS' : sN.S = D7 s.S (32 + s.k) (C1 (EY s.ep (s.Ls.map AW).length (AW l))) := by rw [hsN, hml]; rfl
   have hL' : sN.Ls.map AW = s.Ls.map AW ++ [AW l] := by rw [hsN]; show (s.Ls ++ [l]).map AW = _; rw [List.map_append]; rfl
   have hk' : 32 + sN.k = 32 + s.k + n := by rw [hsN]; show 32 + (s.k + DG (AW l).length) = _; omega
   have hcN : sN.c = c2 := by rw [hsN, hc2]; rfl
   have heN : sN.ep = s.ep := by rw [hsN]; rfl
   rw [hc]
   subst hcN
   refine B2 Tryz.call58 rfl rfl (fun w1 H1 => AH.LA (E7 jb g 32 m s.ep (32 + s.k) (s.Ls.map AW)) (BR g s.S []) H1 fun D' _ hin H2 => aC D' w1 jb g 32 m s.ep (32 + s.k) (s.Ls.map AW) [AW l] _ s.S (AW l) n (32 + sN.k) (sN.Ls.map AW) sN.S (by simp) hn hk' hL' hS' AA AA AA AA AA AA AA (hin _ fun h hs ho => I2 (b := b35) hs [AW l] ⟨[_], [], rfl, C7 (A := qe.1) hs (AW l) rfl (DQ.2 rfl), rfl⟩ (by simp)) H2) ?_
   rw [← heN]
   obtain ⟨jb2, hjb2⟩ : ∃ x, x = jb := ⟨_, rfl⟩
   rw [← hjb2]
   refine zs rfl <| zn <| zg <| zm rfl <| zv (CO rfl rfl) <| zn <| CP rfl (AF) ?_
   refine zk <| AG <| zg <| zm rfl <| zv (CG rfl rfl) <| zn <| CP rfl ((fun h => h rfl)) <| zk <| zg <| zm rfl <| AZ (FV rfl rfl) rfl <| zv (AY rfl) <| zf rfl <| ?_
   refine A6 (QN (II jb2 g sN qd) rfl rfl rfl (by simp) CL (by unfold II; rw [heN]; rfl)) rfl rfl ?_
   refine zn <| zg <| zs rfl <| AS <| zt <| zq <| ?_
   exact zz rfl rfl fun w' H' => ⟨rfl, H'.AK (AD.trans (b := AI sb 120 (II jb2 g sN qd) :: E7 jb2 g 32 m sN.ep (32 + sN.k) (sN.Ls.map AW) :: (C6 sN.c qd ++ [BR g sN.S []])) Z8 (MY (s := sN) jb2 qd))⟩
  refine B2 Tryz.call58 rfl rfl (fun w1 => zp (E7 jb g 32 m s.ep (32 + s.k) (s.Ls.map AW)) fun D' _ hin H2 => Y5 D' w1 jb g 32 m s.ep (32 + s.k) (s.Ls.map AW) [AW l] _ AA AA J0 J0 (hin _ fun h hs ho => I2 (b := b35) hs [AW l] ⟨[_], [], rfl, C7 (A := qe.1) hs (AW l) rfl (DQ.2 rfl), rfl⟩ (by simp)) H2) ?_
  refine HL.AK (AD.trans (b := AI sb 120 (II jb g s q) :: E7 jb g 32 m s.ep (32 + s.k) (s.Ls.map AW) :: (C6 s.c q ++ [BR g s.S [], row qe.1 5 1 (AW l).length qe.2 ((AW l).map AU), AI b5 49 (B3 c2 qd), row qd.1.1 83 3 c2.2.2.2.1.length qd.1.2 (c2.2.2.2.1.flatMap CJ), row qd.2.1.1 147 3 c2.2.2.2.2.1.length qd.2.1.2 (c2.2.2.2.2.1.flatMap BJ), row qd.2.2.1 149 3 c2.2.2.2.2.2.length qd.2.2.2 (c2.2.2.2.2.2.flatMap BW)])) Z8 (MY jb q)) ?_
  have h1 := OR h hep
  obtain ⟨s1, hs1⟩ : ∃ s1, s1 = H8 s := ⟨_, rfl⟩
  have hs1k : s1.k = 0 := by rw [hs1]; rfl
  have hs1c : s1.c = s.c := by rw [hs1]; rfl
  have hs1L : s1.Ls = [] := by rw [hs1]; rfl
  have hs1e : s1.ep = s.ep + 1 := by rw [hs1]; rfl
  rw [← hs1] at h1
  have hl1 := h1.len
  refine zs rfl <| zn <| zg <| zm rfl <| zv (CO rfl rfl) <| zn <| GR rfl (rfl) <| zg <| zm rfl <| B2 Tryz.call31 rfl rfl (fun w1 H1 => AH.LA (GX sb g m s) (BR g s.S []) H1 fun D' _ _ H2 => ZC D' w1 sb g m s h hep H2) ?_
  rw [← hs1]
  refine zs rfl <| zn <| zg <| zm rfl <| zv (CO rfl rfl) <| zn <| GR rfl (rfl) <| HC.exs ?_
  rintro ⟨jb2, q2⟩
  refine HC.AK (l' := AI sb 120 (II jb2 g s1 q2) :: E7 jb2 g 32 m s1.ep (32 + s1.k) (s1.Ls.map AW) :: (C6 s1.c q2 ++ [BR g s1.S [], row qe.1 5 1 (AW l).length qe.2 ((AW l).map AU), AI b5 49 (B3 c2 qd), row qd.1.1 83 3 c2.2.2.2.1.length qd.1.2 (c2.2.2.2.1.flatMap CJ), row qd.2.1.1 147 3 c2.2.2.2.2.1.length qd.2.1.2 (c2.2.2.2.2.1.flatMap BJ), row qd.2.2.1 149 3 c2.2.2.2.2.2.length qd.2.2.2 (c2.2.2.2.2.2.flatMap BW)])) (fun _ h => h) ?_
  refine AR <| zm rfl <| zv (AY rfl) <| zf rfl <| zl rfl rfl <| zm rfl <| ?_
  refine AV (BS rfl rfl rfl) rfl rfl rfl fun b48 =>  ?_
  by_cases hfit2 : n ≤ m - 32
  ·obtain ⟨sN, hsN⟩ : ∃ sN, sN = LD s1 l := ⟨_, rfl⟩
   have hc : EC m s l = (0, sN) := by unfold EC; rw [hed, if_neg (fun h => h rfl), if_neg (fun h => h hok), hn, if_neg hfit, if_pos hfit2, hsN, hs1]
   have hS' : sN.S = D7 s1.S (32 + s1.k) (C1 (EY s1.ep (s1.Ls.map AW).length (AW l))) := by rw [hsN, List.length_map]; rfl
   have hL' : sN.Ls.map AW = s1.Ls.map AW ++ [AW l] := by rw [hsN]; show (s1.Ls ++ [l]).map AW = _; rw [List.map_append]; rfl
   have hk' : 32 + sN.k = 32 + s1.k + n := by rw [hsN]; show 32 + (s1.k + DG (AW l).length) = _; omega
   have hcN : sN.c = c2 := by rw [hsN, hc2]; show (D9 s1.c l).1 = _; rw [hs1c]
   have heN : sN.ep = s1.ep := by rw [hsN]; rfl
   rw [hc]
   subst hcN
   refine B2 Tryz.call58 rfl rfl (fun w1 H1 => AH.LA (E7 jb2 g 32 m s1.ep (32 + s1.k) (s1.Ls.map AW)) (BR g s1.S []) H1 fun D' _ hin H2 => aC D' w1 jb2 g 32 m s1.ep (32 + s1.k) (s1.Ls.map AW) [AW l] _ s1.S (AW l) n (32 + sN.k) (sN.Ls.map AW) sN.S (by simp) hn hk' hL' hS' AA AA AA AA AA AA S4 (hin _ fun h hs ho => I2 (b := b48) hs [AW l] ⟨[_], [], rfl, C7 (A := qe.1) hs (AW l) rfl (DQ.2 rfl), rfl⟩ (by simp)) H2) ?_
   rw [← heN]
   refine zs rfl <| zn <| AG <| zg <| zm rfl <| zv (CG rfl rfl) <| zn <| CP rfl ((fun h => h rfl)) <| zk <| zg <| zm rfl <| AZ (FV rfl rfl) rfl <| zv (AY rfl) <| zf rfl <| ?_
   refine A6 (QN (II jb2 g sN qd) rfl rfl rfl (by simp) CL (by unfold II; rw [heN]; rfl)) rfl rfl ?_
   refine zn <| zg <| zs rfl <| AS <| zt <| zq <| ?_
   exact zz rfl rfl fun w' H' => ⟨rfl, H'.AK (AD.trans (b := AI sb 120 (II jb2 g sN qd) :: E7 jb2 g 32 m sN.ep (32 + sN.k) (sN.Ls.map AW) :: (C6 sN.c qd ++ [BR g sN.S []])) Z8 (MY (s := sN) jb2 qd))⟩
  have hc : EC m s l = (12, s1) := by unfold EC; rw [hed, if_neg (fun h => h rfl), if_neg (fun h => h hok), hn, if_neg hfit, if_neg hfit2, hs1]
  rw [hc]
  refine B2 Tryz.call58 rfl rfl (fun w1 => zp (E7 jb2 g 32 m s1.ep (32 + s1.k) (s1.Ls.map AW)) fun D' _ hin H2 => Y5 D' w1 jb2 g 32 m s1.ep (32 + s1.k) (s1.Ls.map AW) [AW l] _ AA AA J0 J0 (hin _ fun h hs ho => I2 (b := b48) hs [AW l] ⟨[_], [], rfl, C7 (A := qe.1) hs (AW l) rfl (DQ.2 rfl), rfl⟩ (by simp)) H2) ?_
  refine zs rfl <| zn <| AG <| zg <| zm rfl <| zv (CG rfl rfl) <| zn <| GR rfl (AF) ?_
  refine zg <| zm rfl <| zs rfl <| zn <| zq <| zr <| ?_
  exact zz rfl rfl fun w' H' => ⟨rfl, H'.AK (AD.trans (b := AI sb 120 (II jb2 g s1 q2) :: E7 jb2 g 32 m s1.ep (32 + s1.k) (s1.Ls.map AW) :: (C6 s1.c q2 ++ [BR g s1.S []])) Z8 (MY jb2 q2))⟩
 have hc : EC m s l = (11, s) := by unfold EC; rw [hed, if_neg (fun h => h rfl), if_pos hok]
 rw [hc]
 refine zk <| zg <| zm rfl <| B2 Tryz.call57 rfl rfl (fun w1 => D6 fun D' hold _ _ => rG D' w1 _ l hl32 hok (hold _ HA)) ?_
 refine zm rfl <| zx rfl rfl <| zx rfl rfl <| zs rfl <| zs rfl <| AS <| zt <| AG <| zg <| zm rfl <| zv (CG rfl rfl) <| zn <| GR rfl (AF) ?_
 refine zg <| zm rfl <| zs rfl <| zn <| zq <| zr <| ?_
 exact zz rfl rfl fun w' H' => ⟨rfl, H'.AK (AD.trans (b := AI sb 120 (II jb g s q) :: E7 jb g 32 m s.ep (32 + s.k) (s.Ls.map AW) :: (C6 s.c q ++ [BR g s.S []])) Z8 (MY jb q))⟩
def lA : List C5 := [(1, 0, 4096, 0, 0, 0, 0)]
def lB : List C5 := [(1, 0, 5, 0, 0, 0, 0)]
def dA : CA := (4096, 20, 15, [(true, 20000, 1), (true, 20000, 1)], [(1, 3, 0)], [])
def dB : CA := (5, 20, 15, [(true, 20000, 1), (true, 20000, 1)], [(1, 3, 0)], [])
theorem rB : E4 (E0 2) lA = (dA, 0) := by decide +kernel
theorem rI : E4 dA lB = (dB, 0) := by decide +kernel
theorem fH : C4 dA := by decide +kernel
theorem sM : ¬ C4 dB := by decide +kernel
theorem sK : G0 lA := by decide +kernel
theorem hD : ∀ x ∈ lA, Flat.ok x := fun x hx => by
 have : x = (1, 0, 4096, 0, 0, 0, 0) := by simpa [lA] using hx
 subst this; exact fQ _ ⟨by decide, by decide⟩ ⟨by decide, by decide⟩ (M6 _ ⟨by decide, by decide⟩) ⟨by decide, by decide⟩
theorem s8 : ∀ x ∈ lB, Flat.ok x := fun x hx => by
 have : x = (1, 0, 5, 0, 0, 0, 0) := by simpa [lB] using hx
 subst this; exact fQ _ ⟨by decide, by decide⟩ ⟨by decide, by decide⟩ (M6 _ ⟨by decide, by decide⟩) ⟨by decide, by decide⟩
theorem rM : C4 (E0 2) := TF 2 AF AF
theorem gV : D9 (E0 2) lA = (dA, 0) := (N7 _ _).ok rM AF rB fH
theorem s7 : D9 dA lB = (FZ, 14) := (N7 _ _).no fH AF rI sM
theorem jS : ∃ s2, EC 44 (KZ 44 2) lA = (0, s2) ∧ SI 44 s2 ∧ s2.c = dA ∧ s2.ep = 1 ∧ s2.c0 = E0 2 ∧ EC 44 s2 lB = (14, s2) := by
 have h1 := R2 (m := 44) (p := 2) AF AF AF
 have hn : DG (AW lA).length ≤ 44 - 32 := by
  rw [W1]
  show DG (1 + 16 * 1) ≤ 12
  decide
 have hc : EC 44 (KZ 44 2) lA = (0, LD (KZ 44 2) lA) := by
  unfold EC
  have he : D9 (KZ 44 2).c lA = (dA, 0) := gV
  rw [he, if_neg (fun h => h rfl), if_neg (fun h => h sK)]
  exact if_pos (show _ ≤ 44 - 32 - 0 from hn)
 have h2 := Q7 h1 hD (show 1 < 4294967290 by decide)
 rw [hc] at h2
 have hc2 : (LD (KZ 44 2) lA).c = dA := by show (D9 (E0 2) lA).1 = _; rw [gV]
 refine ⟨_, hc, h2.1, hc2, rfl, rfl, ?_⟩
 unfold EC
 rw [hc2, s7, if_pos AF]
theorem kC (g : Nat) (S : List BA) (H : AH D w w [BR g S []]) :
  Calls Tryz.prog 25 #[.pointer (some ⟨g, 0, none⟩), .slice none 0 0] w fun e w' => e = .returned (.tuple #[]) ∧ AH D w w' [BR g S []] := Y6 D w g S [] (.slice none 0 0) [] (fun p hp => by cases hp) Old.nil H
set_option maxHeartbeats 1000000 in
theorem M8 : Calls Tryz.prog 13 #[] w fun e w' => e = .returned (.bool true) ∧ AH D w w' [] := by
 obtain ⟨s1, hs1⟩ : ∃ s, s = KZ 44 2 := ⟨_, rfl⟩
 obtain ⟨s2, f1, f2, f3, f4, f5, f6⟩ := jS
 rw [← hs1] at f1
 have k1 : SI 44 s1 := by rw [hs1]; exact R2 AF AF AF
 have e1 : s1.ep = 1 := by rw [hs1]; rfl
 have k3 := OR f2 AA
 obtain ⟨s3, hs3⟩ : ∃ s, s = H8 s2 := ⟨_, rfl⟩
 have e3 : s3.ep = 2 := by rw [hs3]; show s2.ep + 1 = 2; omega
 obtain ⟨S0, hS0⟩ : ∃ S, S = List.replicate 44 FP := ⟨_, rfl⟩
 have hpl : s2.c0.2.2.2.1.length = 2 := by rw [f5]; rfl
 have hcl : s2.c.2.2.2.1.length = 2 := by rw [f3]; rfl
 refine BZ (vs := []) Tryz.func13 rfl _ Tryz.ntmps13 rfl (AH.start D w) ?_
 simp only [BX, Nat.zero_add]
 refine zg <| zs rfl <| zn <| AG <| AR <| CQ (σ := Nat) Tryz.call15 rfl rfl (fun w1 => zu fun D' _ _ _ => (gJ D' w1 44 AF AF).mono fun e w' ⟨g, he, H'⟩ => ⟨g, he, show AH D' w1 w' [BR g S0 []] by rw [hS0]; exact H'⟩) ?_
 intro g
 try rw [List.nil_append]
 refine zm rfl <| zx rfl rfl <| zx rfl rfl <| zs rfl <| zs rfl <| AS <| zt <| zg <| zm rfl <| CQ (σ := Nat) Tryz.call17 rfl rfl (fun w1 => EZ (BR g S0 []) fun D' _ _ H2 => (aW D' w1 g 44 2 AF AF AF AF S0 hS0 H2).mono fun e w' ⟨sb, he, H'⟩ => ⟨sb, he, show AH D' w1 w' [GX sb g 44 s1, BR g s1.S []] by rw [hs1]; exact H'⟩) ?_
 intro sb
 refine zm rfl <| zx rfl rfl <| zx rfl rfl <| zs rfl <| zs rfl <| AS <| zt <| AG <| zg <| zm rfl <| zv (CG rfl rfl) <| zm rfl <| F0 (t := 18) rfl ((fun h => h rfl)) <| AJ rfl rfl <| zm rfl <| AJ rfl rfl <| zv (CG rfl rfl) <| zv (A8 rfl rfl) <| zm rfl <| F0 (t := 22) rfl ((fun h => h rfl)) <| AJ rfl rfl <| zm rfl <| AJ rfl rfl <| zv (IL rfl rfl) <| zv (A8 rfl rfl) <| zm rfl <| AJ rfl rfl <| zm rfl <| AJ rfl rfl <| B2 Tryz.call32 rfl rfl (fun w1 => zp (GX sb g 44 s1) fun D' _ _ H2 => V1 D' w1 sb g 44 s1 H2) ?_
 refine AJ rfl rfl <| zv (CG rfl rfl) <| zv (A8 rfl rfl) <| zm rfl <| F0 (t := 31) rfl (AA) ?_
 refine AJ rfl rfl <| zm rfl <| AJ rfl rfl <| zv (CH rfl rfl) <| ?_
 refine AJ rfl rfl <| AV (BS rfl rfl rfl) rfl rfl rfl fun b34 =>  ?_
 refine AJ rfl rfl <| B2 Tryz.call19 rfl rfl (fun w1 H1 => AH.LA (GX sb g 44 s1) (BR g s1.S []) H1 fun D' _ hin H2 => (VZ D' w1 sb g 44 s1 _ lA k1 AF AA AF (hin _ fun h hs ho => I2 (b := b34) hs lA (KF.2 ⟨rfl, hD⟩) AF) H2).mono fun e w' ⟨he, H'⟩ => ⟨(by rw [f1] at he; exact he : e = .returned (.int .i64 0)), show AH D' w1 w' [GX sb g 44 s2, BR g s2.S []] by rw [f1] at H'; exact H'⟩) ?_
 refine AJ rfl rfl <| zv (CG rfl rfl) <| zv (A8 rfl rfl) <| zm rfl <| F0 (t := 38) rfl ((fun h => h rfl)) <| AJ rfl rfl <| zm rfl <| AJ rfl rfl <| zv (CH rfl rfl) <| ?_
 refine AJ rfl rfl <| AV (BS rfl rfl rfl) rfl rfl rfl fun b41 =>  ?_
 refine AJ rfl rfl <| B2 Tryz.call19 rfl rfl (fun w1 H1 => AH.LA (GX sb g 44 s2) (BR g s2.S []) H1 fun D' _ hin H2 => (VZ D' w1 sb g 44 s2 _ lB f2 AF AA AF (hin _ fun h hs ho => I2 (b := b41) hs lB (KF.2 ⟨rfl, s8⟩) AF) H2).mono fun e w' ⟨he, H'⟩ => ⟨(by rw [f6] at he; exact he : e = .returned (.int .i64 14)), show AH D' w1 w' [GX sb g 44 s2, BR g s2.S []] by rw [f6] at H'; exact H'⟩) ?_
 refine AJ rfl rfl <| zv (CG rfl rfl) <| zv (A8 rfl rfl) <| zn <| CP rfl ((fun h => h rfl)) <| zk <| zg <| zm rfl <| B2 Tryz.call25 rfl rfl (fun w1 => zp (BR g s2.S []) fun D' _ _ H2 => kC D' w1 g s2.S H2) ?_
 refine zn <| zg <| zm rfl <| CQ (σ := Nat) Tryz.call17 rfl rfl (fun w1 => EZ (BR g s2.S []) fun D' _ _ H2 => bU D' w1 g 44 s2 2 f2 AF AA AF AF hpl H2) ?_
 intro tb
 refine zm rfl <| zx rfl rfl <| zx rfl rfl <| zs rfl <| zs rfl <| AS <| zt <| zg <| zm rfl <| zv (CO rfl rfl) <| zm rfl <| KW (t := 54) rfl (rfl) <| AJ rfl rfl <| zm rfl <| AJ rfl rfl <| zv (OW rfl rfl) <| zv (BF rfl rfl) <| zm rfl <| AJ rfl rfl <| zm rfl <| AJ rfl rfl <| CQ (σ := DA) Tryz.call26 rfl rfl (fun w1 => EZ (GX tb g 44 s2) fun D' _ _ H2 => VU D' w1 tb g 44 s2 f2.okc H2) ?_
 intro q1
 refine AJ rfl rfl <| zv (cD rfl rfl) <| AJ rfl rfl <| zv (CO rfl rfl) <| zv (BF rfl rfl) <| zm rfl <| KW (t := 64) rfl ((by rw [f3]; rfl)) ?_
 refine AJ rfl rfl <| zm rfl <| AJ rfl rfl <| CQ (σ := DA) Tryz.call26 rfl rfl (fun w1 => EZ (GX tb g 44 s2) fun D' _ _ H2 => VU D' w1 tb g 44 s2 f2.okc H2) ?_
 intro q2
 refine AJ rfl rfl <| zv (cD rfl rfl) <| AJ rfl rfl <| zv BN <| ?_
 refine AJ rfl rfl <| zv (CO rfl rfl) <| zv (BF rfl rfl) <| zm rfl <| KW (t := 71) rfl (AA) ?_
 refine AJ rfl rfl <| zm rfl <| AJ rfl rfl <| B2 Tryz.call32 rfl rfl (fun w1 => zp (GX tb g 44 s2) fun D' _ _ H2 => V1 D' w1 tb g 44 s2 H2) ?_
 refine AJ rfl rfl <| zv (CO rfl rfl) <| zv (BF rfl rfl) <| zm rfl <| KW (t := 76) rfl (AA) ?_
 refine AJ rfl rfl <| zm rfl <| AJ rfl rfl <| B2 Tryz.call31 rfl rfl (fun w1 H1 => AH.LA (GX tb g 44 s2) (BR g s2.S []) H1 fun D' _ _ H2 => (ZC D' w1 tb g 44 s2 f2 AA H2).mono fun e w' ⟨he, H'⟩ => ⟨he, show AH D' w1 w' [GX tb g 44 s3, BR g s3.S []] by rw [hs3]; exact H'⟩) ?_
 refine AJ rfl rfl <| zv (CO rfl rfl) <| zv (BF rfl rfl) <| zm rfl <| KW (t := 81) rfl (rfl) <| AJ rfl rfl <| zm rfl <| AJ rfl rfl <| B2 Tryz.call32 rfl rfl (fun w1 => zp (GX tb g 44 s3) fun D' _ _ H2 => V1 D' w1 tb g 44 s3 H2) ?_
 refine AJ rfl rfl <| zv (CO rfl rfl) <| zv (BF rfl rfl) <| zs rfl <| zn <| zq <| ?_
 exact zz rfl rfl fun w' H' => ⟨by rw [e3]; rfl, H'.AK (AD.nil _)⟩
theorem ZU (c d : CA) (vp vv vs wp wv ws : Value) (H1 : ER D w c vp vv vs) (H2 : ER D w d wp wv ws) :
  Calls Tryz.prog 27 #[.agg (C9 c vp vv vs).toArray, .agg (C9 d wp wv ws).toArray] w fun e w' => ∃ b : EX (c = d), e = .returned (.bool b.1) ∧ AH D w w' [] := by
 obtain ⟨Ap, cp, hvp, _, _, Sp, op⟩ := H1.p.EG
 obtain ⟨Av, cv, hvv, _, _, Sv, ov⟩ := H1.v.EG
 obtain ⟨As, cs, hvs, _, _, Ss, os⟩ := H1.s.EG
 obtain ⟨Bp, dp, hwp, _, _, Tp, qp⟩ := H2.p.EG
 obtain ⟨Bv, dv, hwv, _, _, Tv, qv⟩ := H2.v.EG
 obtain ⟨Bs, ds, hws, _, _, Ts, qs⟩ := H2.s.EG
 have l1 := H1.lp; have l2 := H1.lv; have l3 := H1.ls
 have Sp : CS D w Ap (c.2.2.2.1.flatMap CJ) := Sp
 have Sv : CS D w Av (c.2.2.2.2.1.flatMap BJ) := Sv
 have Ss : CS D w As (c.2.2.2.2.2.flatMap BW) := Ss
 have Tp : CS D w Bp (d.2.2.2.1.flatMap CJ) := Tp
 have Tv : CS D w Bv (d.2.2.2.2.1.flatMap BJ) := Tv
 have Ts : CS D w Bs (d.2.2.2.2.2.flatMap BW) := Ts
 subst hvp; subst hvv; subst hvs; subst hwp; subst hwv; subst hws
 obtain ⟨c1, c2, c3, P, V, S⟩ := c
 obtain ⟨d1, d2, d3, P', V', S'⟩ := d
 dsimp only at *
 have hceq : ((c1, c2, c3, P, V, S) : CA) = (d1, d2, d3, P', V', S') ↔ c1 = d1 ∧ c2 = d2 ∧ c3 = d3 ∧ P = P' ∧ V = V' ∧ S = S' := by simp only [Prod.mk.injEq]
 refine BZ (vs := [.agg #[.int .i64 c1, .int .i64 c2, .int .i64 c3, .slice Ap P.length cp, .slice Av V.length cv, .slice As S.length cs], .agg #[.int .i64 d1, .int .i64 d2, .int .i64 d3, .slice Bp P'.length dp, .slice Bv V'.length dv, .slice Bs S'.length ds]]) Tryz.func27 rfl _ Tryz.ntmps27 rfl (AH.start D w) ?_
 simp only [BX, Nat.zero_add]
 refine zg <| AV (EE rfl rfl) rfl rfl rfl fun b2 =>  ?_
 refine AV (EE rfl rfl) rfl rfl rfl fun b3 =>  ?_
 refine zs rfl <| zn <| AG <| zg <| zf rfl <| zl rfl rfl <| zf rfl <| zl rfl rfl <| zv (CG rfl rfl) <| zm rfl <| ?_
 refine DB (t := 13) rfl (fun g0 => ?_) (fun g0 => ?_)
 ·have hno : ¬ ((c1, c2, c3, P, V, S) : CA) = (d1, d2, d3, P', V', S') := fun h => g0 ((hceq.1 h).1)
  refine zo rfl rfl <| zo rfl rfl <| zo rfl rfl <| zo rfl rfl <| zo rfl rfl <| zv (BF rfl rfl) <| zm rfl <| zo rfl rfl <| zo rfl rfl <| zo rfl rfl <| zo rfl rfl <| zo rfl rfl <| zv (BF rfl rfl) <| zm rfl <| zo rfl rfl <| zo rfl rfl <| zo rfl rfl <| zo rfl rfl <| zo rfl rfl <| zo rfl rfl <| zo rfl rfl <| zv (BF rfl rfl) <| zm rfl <| zo rfl rfl <| zo rfl rfl <| zo rfl rfl <| zo rfl rfl <| zo rfl rfl <| zo rfl rfl <| zo rfl rfl <| zv (BF rfl rfl) <| zm rfl <| zo rfl rfl <| zo rfl rfl <| zo rfl rfl <| zo rfl rfl <| ?_
  refine zo rfl rfl <| zo rfl rfl <| zo rfl rfl <| zv (BF rfl rfl) <| zn <| DD rfl <| zg <| zs rfl <| zn <| zq <| zr <| ?_
  exact zz rfl rfl fun w' H' => ⟨bF hno, rfl, H'.AK (AD.nil _)⟩
 skip
 have g0 := Classical.not_not.1 g0
 refine AJ rfl rfl <| zf rfl <| AJ rfl rfl <| zl rfl rfl <| AJ rfl rfl <| zf rfl <| AJ rfl rfl <| zl rfl rfl <| AJ rfl rfl <| zv (CG rfl rfl) <| zv (A8 rfl rfl) <| ?_
 refine zm rfl <| DB (t := 20) rfl (fun g1 => ?_) (fun g1 => ?_)
 ·have hno : ¬ ((c1, c2, c3, P, V, S) : CA) = (d1, d2, d3, P', V', S') := fun h => g1 ((hceq.1 h).2.1)
  refine zo rfl rfl <| zo rfl rfl <| zo rfl rfl <| zo rfl rfl <| zo rfl rfl <| zv (BF rfl rfl) <| zm rfl <| zo rfl rfl <| zo rfl rfl <| zo rfl rfl <| zo rfl rfl <| zo rfl rfl <| zo rfl rfl <| zo rfl rfl <| zv (BF rfl rfl) <| zm rfl <| zo rfl rfl <| zo rfl rfl <| zo rfl rfl <| zo rfl rfl <| zo rfl rfl <| zo rfl rfl <| zo rfl rfl <| zv (BF rfl rfl) <| zm rfl <| zo rfl rfl <| zo rfl rfl <| zo rfl rfl <| zo rfl rfl <| zo rfl rfl <| zo rfl rfl <| zo rfl rfl <| zv (BF rfl rfl) <| zn <| DD rfl <| zg <| zs rfl <| zn <| zq <| zr <| ?_
  exact zz rfl rfl fun w' H' => ⟨bF hno, rfl, H'.AK (AD.nil _)⟩
 skip
 have g1 := Classical.not_not.1 g1
 refine AJ rfl rfl <| zf rfl <| AJ rfl rfl <| zl rfl rfl <| AJ rfl rfl <| zf rfl <| AJ rfl rfl <| zl rfl rfl <| AJ rfl rfl <| zv (CG rfl rfl) <| zv (A8 rfl rfl) <| ?_
 refine zm rfl <| DB (t := 27) rfl (fun g2 => ?_) (fun g2 => ?_)
 ·have hno : ¬ ((c1, c2, c3, P, V, S) : CA) = (d1, d2, d3, P', V', S') := fun h => g2 ((hceq.1 h).2.2.1)
  refine zo rfl rfl <| zo rfl rfl <| zo rfl rfl <| zo rfl rfl <| zo rfl rfl <| zo rfl rfl <| zo rfl rfl <| zv (BF rfl rfl) <| zm rfl <| zo rfl rfl <| zo rfl rfl <| zo rfl rfl <| zo rfl rfl <| zo rfl rfl <| zo rfl rfl <| zo rfl rfl <| zv (BF rfl rfl) <| zm rfl <| zo rfl rfl <| zo rfl rfl <| zo rfl rfl <| zo rfl rfl <| zo rfl rfl <| zo rfl rfl <| zo rfl rfl <| zv (BF rfl rfl) <| zn <| DD rfl <| AG <| AR <| zs rfl <| zn <| zq <| zr <| ?_
  exact zz rfl rfl fun w' H' => ⟨bF hno, rfl, H'.AK (AD.nil _)⟩
 skip
 have g2 := Classical.not_not.1 g2
 refine AJ rfl rfl <| zf rfl <| AJ rfl rfl <| zl rfl rfl <| AJ rfl rfl <| zv BN <| ?_
 refine AJ rfl rfl <| zf rfl <| AJ rfl rfl <| zl rfl rfl <| AJ rfl rfl <| zv BN <| ?_
 refine AJ rfl rfl <| zv (CG rfl rfl) <| zv (A8 rfl rfl) <| zm rfl <| DB (t := 36) rfl (fun g3 => ?_) (fun g3 => ?_)
 ·have hno : ¬ ((c1, c2, c3, P, V, S) : CA) = (d1, d2, d3, P', V', S') := fun h => g3 (by rw [(hceq.1 h).2.2.2.1])
  refine zo rfl rfl <| zo rfl rfl <| zo rfl rfl <| zo rfl rfl <| zo rfl rfl <| zo rfl rfl <| zo rfl rfl <| zv (BF rfl rfl) <| zm rfl <| zo rfl rfl <| zo rfl rfl <| zo rfl rfl <| zo rfl rfl <| zo rfl rfl <| zo rfl rfl <| zo rfl rfl <| zv (BF rfl rfl) <| AS <| zt <| DD rfl <| zg <| zs rfl <| AS <| zt <| zq <| zr <| ?_
  exact zz rfl rfl fun w' H' => ⟨bF hno, rfl, H'.AK (AD.nil _)⟩
 skip
 refine AJ rfl rfl <| zf rfl <| AJ rfl rfl <| zl rfl rfl <| AJ rfl rfl <| zv BN <| ?_
 refine AJ rfl rfl <| zf rfl <| AJ rfl rfl <| zl rfl rfl <| AJ rfl rfl <| zv BN <| ?_
 refine AJ rfl rfl <| zv (CG rfl rfl) <| zv (A8 rfl rfl) <| zm rfl <| DB (t := 45) rfl (fun g4 => ?_) (fun g4 => ?_)
 ·have hno : ¬ ((c1, c2, c3, P, V, S) : CA) = (d1, d2, d3, P', V', S') := fun h => g4 (by rw [(hceq.1 h).2.2.2.2.1])
  refine zo rfl rfl <| zo rfl rfl <| zo rfl rfl <| zo rfl rfl <| zo rfl rfl <| zo rfl rfl <| zo rfl rfl <| zv (BF rfl rfl) <| zn <| DD rfl <| AG <| AR <| zs rfl <| zn <| zq <| zr <| ?_
  exact zz rfl rfl fun w' H' => ⟨bF hno, rfl, H'.AK (AD.nil _)⟩
 skip
 refine AJ rfl rfl <| zf rfl <| AJ rfl rfl <| zl rfl rfl <| AJ rfl rfl <| zv BN <| ?_
 refine AJ rfl rfl <| zf rfl <| AJ rfl rfl <| zl rfl rfl <| AJ rfl rfl <| zv BN <| ?_
 refine AJ rfl rfl <| zv (CG rfl rfl) <| zv (A8 rfl rfl) <| zn <| BP rfl (fun g5 => ?_) (fun g5 => ?_)
 ·have hno : ¬ ((c1, c2, c3, P, V, S) : CA) = (d1, d2, d3, P', V', S') := fun h => g5 (by rw [(hceq.1 h).2.2.2.2.2])
  refine zg <| zs rfl <| zn <| zq <| zr <| ?_
  exact zz rfl rfl fun w' H' => ⟨bF hno, rfl, H'.AK (AD.nil _)⟩
 skip
 refine zk <| AG <| zg <| zs rfl <| zn <| BK <| ?_
 have hPl : P.length = P'.length := by omega
 have hVl : V.length = V'.length := by omega
 have hSl : S.length = S'.length := by omega
 refine JP (σ := Nat) [2, 3] rfl 5 (fun k => .int .i64 (k : Int)) (fun k => k ≤ P.length ∧ P.take k = P'.take k) (fun k => P.length - k) (0) (⟨Nat.zero_le _, by simp⟩) rfl ?_
 rintro k ⟨hk, hkt⟩ K1 hK1
 refine AG <| zg <| zm rfl <| zf rfl <| zl rfl rfl <| ?_
 refine zv BN <| ?_
 refine zv (B7 rfl rfl) <| zn <| BP rfl (fun h2 => ?_) (fun h2 => ?_)
 ·have hlt : k < P.length := by omega
  have hlt2 : k < P'.length := by omega
  obtain ⟨hA, _⟩ := CS.EP (D := D) (w0 := w) (f := CJ) (sz := 3) (fun _ => rfl) AF Sp hlt []
  obtain ⟨hB, _⟩ := CS.EP (D := D) (w0 := w) (f := CJ) (sz := 3) (fun _ => rfl) AF Tp hlt2 []
  have hc1 := fun l => (CS.EP (D := D) (w0 := w) (f := CJ) (sz := 3) (fun _ => rfl) AF Sp hlt l).2
  have hc2 := fun l => (CS.EP (D := D) (w0 := w) (f := CJ) (sz := 3) (fun _ => rfl) AF Tp hlt2 l).2
  have hs1 := List.take_succ_eq_append_getElem hlt
  have hs2 := List.take_succ_eq_append_getElem hlt2
  have hat : P = P' → P[k] = P'[k] := fun e => by subst e; rfl
  have k1 := eG (op P[k] (List.getElem_mem hlt))
  have k2 := eG (qp P'[k] (List.getElem_mem hlt2))
  generalize P[k] = s at *
  generalize P'[k] = t at *
  refine zk <| AG <| BK <| AG <| GM mixed AB <| ?_
  refine AM (AP rfl) rfl <| AM (zw rfl rfl) rfl <| AM (AO rfl) rfl <| AM (CZ rfl DP rfl _ rfl AA) rfl <| ?_
  refine AM (D4 (cs := CJ s) rfl rfl (hc1 _)) rfl ?_
  refine AM (AP rfl) rfl <| AM (zw rfl rfl) rfl <| AM (AO rfl) rfl <| AM (CZ rfl DP rfl _ rfl AA) rfl <| ?_
  refine AM (D4 (cs := CJ t) rfl rfl (hc2 _)) rfl ?_
  refine AM (UW rfl rfl k1 k2 nI) rfl ?_
  refine EM <| zt <| ?_
  refine BP rfl (fun h3 => ?_) (fun h3 => ?_)
  ·have hno : ¬ ((c1, c2, c3, P, V, S) : CA) = (d1, d2, d3, P', V', S') := fun h => h3 (hat (hceq.1 h).2.2.2.1)
   refine zg <| zs rfl <| zn <| zq <| B4 <| zr <| zr <| B4 <| zr <| ?_
   exact zz rfl rfl fun w' H' => ⟨bF hno, rfl, H'.AK (AD.nil _)⟩
  have hst : s = t := Classical.not_not.1 h3
  refine C3 <| zb <| zt <| AR <| zm rfl <| zv (BM rfl rfl BO) <| ?_
  refine zs rfl <| AS <| B5 hK1 (k + 1) (⟨hlt, by rw [hs1, hs2, hkt, hst]⟩) AA BD BL
 have hk' : k = P.length := by omega
 have eP : P = P' := by rw [← List.take_length (l := P), ← hk', hkt, hk', hPl, List.take_length]
 refine CF <| ze <| ze <| CE <| zt <| AG <| zg <| zs rfl <| zn <| BK <| JP (σ := Nat) [2, 3] rfl 6 (fun k => .int .i64 (k : Int)) (fun k => k ≤ V.length ∧ V.take k = V'.take k) (fun k => V.length - k) (0) (⟨Nat.zero_le _, by simp⟩) rfl ?_
 rintro k ⟨hk, hkt⟩ K2 hK2
 refine AG <| zg <| zm rfl <| zf rfl <| zl rfl rfl <| ?_
 refine zv BN <| ?_
 refine zv (B7 rfl rfl) <| zn <| BP rfl (fun h2 => ?_) (fun h2 => ?_)
 ·have hlt : k < V.length := by omega
  have hlt2 : k < V'.length := by omega
  obtain ⟨hA, _⟩ := CS.EP (D := D) (w0 := w) (f := BJ) (sz := 3) (fun _ => rfl) AF Sv hlt []
  obtain ⟨hB, _⟩ := CS.EP (D := D) (w0 := w) (f := BJ) (sz := 3) (fun _ => rfl) AF Tv hlt2 []
  have hc1 := fun l => (CS.EP (D := D) (w0 := w) (f := BJ) (sz := 3) (fun _ => rfl) AF Sv hlt l).2
  have hc2 := fun l => (CS.EP (D := D) (w0 := w) (f := BJ) (sz := 3) (fun _ => rfl) AF Tv hlt2 l).2
  have hs1 := List.take_succ_eq_append_getElem hlt
  have hs2 := List.take_succ_eq_append_getElem hlt2
  have hat : V = V' → V[k] = V'[k] := fun e => by subst e; rfl
  have k1 := fM (ov V[k] (List.getElem_mem hlt))
  have k2 := fM (qv V'[k] (List.getElem_mem hlt2))
  generalize V[k] = s at *
  generalize V'[k] = t at *
  refine zk <| AG <| BK <| AG <| GM mixed AB <| ?_
  refine AM (AP rfl) rfl <| AM (zw rfl rfl) rfl <| AM (AO rfl) rfl <| AM (CZ rfl DP rfl _ rfl AA) rfl <| ?_
  refine AM (D4 (cs := BJ s) rfl rfl (hc1 _)) rfl ?_
  refine AM (AP rfl) rfl <| AM (zw rfl rfl) rfl <| AM (AO rfl) rfl <| AM (CZ rfl DP rfl _ rfl AA) rfl <| ?_
  refine AM (D4 (cs := BJ t) rfl rfl (hc2 _)) rfl ?_
  refine AM (UW rfl rfl k1 k2 mS) rfl ?_
  refine EM <| zt <| ?_
  refine BP rfl (fun h3 => ?_) (fun h3 => ?_)
  ·have hno : ¬ ((c1, c2, c3, P, V, S) : CA) = (d1, d2, d3, P', V', S') := fun h => h3 (hat (hceq.1 h).2.2.2.2.1)
   refine zg <| zs rfl <| zn <| zq <| B4 <| zr <| zr <| B4 <| zr <| ?_
   exact zz rfl rfl fun w' H' => ⟨bF hno, rfl, H'.AK (AD.nil _)⟩
  have hst : s = t := Classical.not_not.1 h3
  refine C3 <| zb <| zt <| AR <| zm rfl <| zv (BM rfl rfl BO) <| ?_
  refine zs rfl <| AS <| B5 hK2 (k + 1) (⟨hlt, by rw [hs1, hs2, hkt, hst]⟩) AA BD BL
 have hk' : k = V.length := by omega
 have eV : V = V' := by rw [← List.take_length (l := V), ← hk', hkt, hk', hVl, List.take_length]
 refine CF <| ze <| ze <| CE <| zt <| AG <| zg <| zs rfl <| zn <| BK <| JP (σ := Nat) [2, 3] rfl 7 (fun k => .int .i64 (k : Int)) (fun k => k ≤ S.length ∧ S.take k = S'.take k) (fun k => S.length - k) (0) (⟨Nat.zero_le _, by simp⟩) rfl ?_
 rintro k ⟨hk, hkt⟩ K3 hK3
 refine AG <| zg <| zm rfl <| zf rfl <| zl rfl rfl <| ?_
 refine zv BN <| ?_
 refine zv (B7 rfl rfl) <| zn <| BP rfl (fun h2 => ?_) (fun h2 => ?_)
 ·have hlt : k < S.length := by omega
  have hlt2 : k < S'.length := by omega
  obtain ⟨hA, _⟩ := CS.EP (D := D) (w0 := w) (f := BW) (sz := 3) (fun _ => rfl) AF Ss hlt []
  obtain ⟨hB, _⟩ := CS.EP (D := D) (w0 := w) (f := BW) (sz := 3) (fun _ => rfl) AF Ts hlt2 []
  have hc1 := fun l => (CS.EP (D := D) (w0 := w) (f := BW) (sz := 3) (fun _ => rfl) AF Ss hlt l).2
  have hc2 := fun l => (CS.EP (D := D) (w0 := w) (f := BW) (sz := 3) (fun _ => rfl) AF Ts hlt2 l).2
  have hs1 := List.take_succ_eq_append_getElem hlt
  have hs2 := List.take_succ_eq_append_getElem hlt2
  have hat : S = S' → S[k] = S'[k] := fun e => by subst e; rfl
  have k1 := fI (os S[k] (List.getElem_mem hlt))
  have k2 := fI (qs S'[k] (List.getElem_mem hlt2))
  generalize S[k] = s at *
  generalize S'[k] = t at *
  refine zk <| AG <| BK <| AG <| GM mixed AB <| ?_
  refine AM (AP rfl) rfl <| AM (zw rfl rfl) rfl <| AM (AO rfl) rfl <| AM (CZ rfl DP rfl _ rfl AA) rfl <| ?_
  refine AM (D4 (cs := BW s) rfl rfl (hc1 _)) rfl ?_
  refine AM (AP rfl) rfl <| AM (zw rfl rfl) rfl <| AM (AO rfl) rfl <| AM (CZ rfl DP rfl _ rfl AA) rfl <| ?_
  refine AM (D4 (cs := BW t) rfl rfl (hc2 _)) rfl ?_
  refine AM (UW rfl rfl k1 k2 m5) rfl ?_
  refine EM <| zt <| ?_
  refine BP rfl (fun h3 => ?_) (fun h3 => ?_)
  ·have hno : ¬ ((c1, c2, c3, P, V, S) : CA) = (d1, d2, d3, P', V', S') := fun h => h3 (hat (hceq.1 h).2.2.2.2.2)
   refine zg <| zs rfl <| zn <| zq <| B4 <| zr <| zr <| B4 <| zr <| ?_
   exact zz rfl rfl fun w' H' => ⟨bF hno, rfl, H'.AK (AD.nil _)⟩
  have hst : s = t := Classical.not_not.1 h3
  refine C3 <| zb <| zt <| AR <| zm rfl <| zv (BM rfl rfl BO) <| ?_
  refine zs rfl <| AS <| B5 hK3 (k + 1) (⟨hlt, by rw [hs1, hs2, hkt, hst]⟩) AA BD BL
 have hk' : k = S.length := by omega
 have eS : S = S' := by rw [← List.take_length (l := S), ← hk', hkt, hk', hSl, List.take_length]
 refine CF <| ze <| ze <| CE <| zt <| AG <| AR <| zs rfl <| zn <| zq <| ?_
 exact zz rfl rfl fun w' H' => ⟨bT (hceq.2 ⟨g0, g1, g2, eP, eV, eS⟩), rfl, H'.AK (AD.nil _)⟩
end Go.Proofs.YtjlolpmmpafjeaaGreat
