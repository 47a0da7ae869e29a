import Derived.Test.YtjlolpmmpafjeaaGreatU17
set_option linter.unusedVariables false
set_option linter.unusedSimpArgs false
namespace Go.Proofs.YtjlolpmmpafjeaaGreat
open CN
variable (D : Nat → Prop) (w : World)
abbrev I8 (jb g from_ to_ ep end_ n : Nat) (q : Option Addr × Nat) : AQ := AI jb 169 [.pointer (some ⟨g, 0, none⟩), .int .i64 (from_ : Int), .int .i64 (to_ : Int), .int .u32 (ep : Int), .int .i64 (end_ : Int), .slice q.1 n q.2]
def iB (jb g from_ to_ ep end_ : Nat) (L : List (List UInt8)) (q : Option Addr × Nat × List Value) : List AQ :=
 [I8 jb g from_ to_ ep end_ L.length (q.1, q.2.1), row q.1 108 1 L.length q.2.1 q.2.2, D5 5 L q.2.2]
def E7 (jb g from_ to_ ep end_ : Nat) (L : List (List UInt8)) : AQ := GQ (iB jb g from_ to_ ep end_ L)
section
variable {jb g from_ to_ ep end_ : Nat} {L : List (List UInt8)} {l : List AQ}
theorem SP {A : Option Addr} {cap : Nat} {cs : List Value} : AD (I8 jb g from_ to_ ep end_ L.length (A, cap) :: row A 108 1 L.length cap cs :: D5 5 L cs :: l) (E7 jb g from_ to_ ep end_ L :: l) :=
 AD.GQ (L := iB jb g from_ to_ ep end_ L) (l := l) (A, cap, cs)
theorem rD : AD (I8 jb g from_ to_ ep end_ 0 (none, 0) :: l) (E7 jb g from_ to_ ep end_ [] :: l) :=
 AD.trans (AD.cons (R9.trans (AD.EB 108 1))) (SP (L := []) (A := none) (cap := 0) (cs := []))
end
theorem aH (jb g from_ to_ ep end_ : Nat) (L : List (List UInt8)) (hle : end_ ≤ to_) (hto : to_ ≤ 100000) (H : AH D w w [E7 jb g from_ to_ ep end_ L]) :
  Calls Tryz.prog 98 #[.pointer (some ⟨jb, 0, none⟩)] w fun e w' => e = .returned (.int .i64 ((to_ - end_ : Nat) : Int)) ∧ AH D w w' [E7 jb g from_ to_ ep end_ L] := by
 refine BZ (vs := [.pointer (some ⟨jb, 0, none⟩)]) Tryz.func98 rfl _ Tryz.ntmps98 rfl H ?_
 simp only [BX, Nat.zero_add]
 refine HC.exs ?_
 rintro ⟨A, cap, cs⟩
 refine HC.AK (l' := I8 jb g from_ to_ ep end_ L.length (A, cap) :: row A 108 1 L.length cap cs :: D5 5 L cs :: []) (fun _ h => h) ?_
 refine zg <| zs rfl <| zn <| AG <| zg <| zm rfl <| zv (IL rfl rfl) <| zn <| EU rfl <| zk <| AG <| GM mixed AB <| AM (AO rfl) rfl <| AM (AY rfl) rfl <| ?_
 refine AM (AP rfl) rfl <| AM (AP rfl) rfl <| AM (zw rfl rfl) rfl <| AM (AO rfl) rfl <| AM (AY rfl) rfl <| AM (AP rfl) rfl <| ?_
 refine AM (zw rfl rfl) rfl <| ?_
 refine AM (FY (m := ((to_ - end_ : Nat) : Int)) rfl rfl ((wrap_i64 AA).trans AA)) rfl ?_
 refine AM (DH rfl) rfl <| EM <| zt <| zq <| ?_
 exact zz rfl rfl fun w' H' => ⟨rfl, H'.AK SP⟩
theorem nD (jb g from_ to_ ep end_ : Nat) (L : List (List UInt8)) (ep' : Nat) (H : AH D w w [E7 jb g from_ to_ ep end_ L]) :
  Calls Tryz.prog 70 #[.pointer (some ⟨jb, 0, none⟩), .int .u32 (ep' : Int)] w fun e w' => e = .returned (.tuple #[]) ∧ AH D w w' [E7 jb g from_ to_ ep' from_ []] := by
 refine BZ (vs := [.pointer (some ⟨jb, 0, none⟩), .int .u32 (ep' : Int)]) Tryz.func70 rfl _ Tryz.ntmps70 rfl H ?_
 simp only [BX, Nat.zero_add]
 refine HC.exs ?_
 rintro ⟨A, cap, cs⟩
 refine HC.AK (l' := I8 jb g from_ to_ ep end_ L.length (A, cap) :: row A 108 1 L.length cap cs :: D5 5 L cs :: []) (fun _ h => h) ?_
 refine zg <| zm rfl <| zv (OW rfl rfl) <| zn <| DD rfl <| AR <| zm rfl <| zm rfl <| zm rfl <| zm rfl <| zm rfl <| zv (AY rfl) <| zf rfl <| zf rfl <| zl rfl rfl <| zv (AY rfl) <| zf rfl <| ?_
 refine A6 (DN rfl rfl rfl rfl rfl) rfl rfl <| zv (AY rfl) <| zf rfl <| A6 (DN rfl rfl rfl rfl rfl) rfl rfl <| zv (AY rfl) <| zf rfl <| ?_
 refine A6 (DN rfl rfl rfl rfl rfl) rfl rfl <| AS <| ?_
 exact M9 (.inl rfl) rfl fun w' H' => ⟨rfl, H'.AK (AD.trans (b := [I8 jb g from_ to_ ep' from_ 0 (none, 0)]) Z8 rD)⟩
set_option maxHeartbeats 1000000 in
theorem cZ (jb g from_ to_ ep end_ : Nat) (L : List (List UInt8)) (hl : L.length ≤ 1000000) (hx : ∀ x ∈ L, x.length ≤ 1000000) (H : AH D w w [E7 jb g from_ to_ ep end_ L]) :
  Calls Tryz.prog 49 #[.pointer (some ⟨jb, 0, none⟩)] w fun e w' => ∃ q : Option Addr × Nat × List Value, e = .returned (.slice q.1 L.length q.2.1) ∧ AH D w w' [row q.1 108 1 L.length q.2.1 q.2.2, D5 5 L q.2.2, E7 jb g from_ to_ ep end_ L] := by
 refine BZ (vs := [.pointer (some ⟨jb, 0, none⟩)]) Tryz.func49 rfl _ Tryz.ntmps49 rfl H ?_
 simp only [BX, Nat.zero_add]
 refine HC.exs ?_
 rintro ⟨A, cap, cs⟩
 refine HC.AK (l' := I8 jb g from_ to_ ep end_ L.length (A, cap) :: row A 108 1 L.length cap cs :: D5 5 L cs :: []) (fun _ h => h) ?_
 refine HC.fact (fun w H => AH.GS A H) (fun hf => ?_)
 obtain ⟨hcl0, hcap, hcap2, hA⟩ := hf
 refine zg <| zs rfl <| zn <| AG <| zg <| zm rfl <| zv (IL rfl rfl) <| zn <| EU rfl <| zk <| zg <| zs rfl <| AS <| zt <| AG <| zg <| zm rfl <| zv (AY rfl) <| zf rfl <| zl rfl rfl <| zv BN <| ?_
 refine zm rfl <| zn <| BK <| JA (σ := Nat × Option Addr × Nat × List Value) [11, 12] rfl 13 (fun s => .int .i64 (s.1 : Int)) 3 (fun s => .slice s.2.1 s.1 s.2.2.1) (fun s => [row s.2.1 108 1 s.1 s.2.2.1 s.2.2.2, D5 5 (L.take s.1) s.2.2.2, I8 jb g from_ to_ ep end_ L.length (A, cap), row A 108 1 L.length cap cs, D5 5 L cs]) (fun s => s.1 ≤ L.length) (fun s => L.length - s.1) ((0, none, 0, [])) (Nat.zero_le _) rfl rfl (fun h hh => AD.EB _ _ h (R9 h hh)) ?_
 rintro ⟨j, B, capB, ds⟩ hj K1 hK1
 dsimp only at hj ⊢
 refine zg <| zv (B7 rfl rfl) <| zn <| AG <| BP rfl (fun hlt => ?_) (fun hlt => ?_)
 ·have hlt : j < L.length := by omega
  have hlt2 : j < cs.length := by omega
  have hA0 : CU A := hA (by intro h; rw [h] at hlt2; simp at hlt2)
  have hlx := hx _ (List.getElem_mem hlt)
  have hsn := List.take_succ_eq_append_getElem hlt
  refine zk <| AG <| BK <| zg <| zv (CZ rfl DP rfl _ rfl AA) <| ?_
  refine AZ (GB rfl (EH.row (A := A) (i := j * 1) hA0 (by rw [Nat.mul_one]; exact List.getElem?_eq_getElem hlt2))) rfl ?_
  refine zs rfl <| zn <| AR <| zm rfl <| zm rfl <| CQ (σ := Option Addr × Nat) Tryz.call81 rfl rfl (fun w1 => zu fun D' _ hin _ => ZP D' w1 cs[j] L[j] hlx (hin _ fun h hh ho => W9 (PE (t := 5) (xs := L) (cs := cs) hh) rfl j hlt hlt2)) ?_
  rintro ⟨C, capC⟩
  try rw [List.nil_append]
  dsimp only
  generalize L[j] = xs at *
  refine AV (BS rfl rfl rfl) rfl rfl rfl fun b20 =>  ?_
  refine AV (BT (A := B) (news := [.slice C xs.length capC]) rfl rfl (BB.AI (b := b20)) rfl CL AF AA) rfl rfl rfl ?_
  rintro ⟨B', capB'⟩
  dsimp only
  refine zs rfl <| AS <| zb <| zt <| AR <| zv (BM rfl rfl BO) <| ?_
  refine zm rfl <| AS <| ?_
  exact B5 hK1 ((j + 1, B', capB', ds ++ [.slice C xs.length capC])) (hlt) AA BD (AD.trans (b := [D5 5 (L.take j) ds, row C 5 1 xs.length capC (xs.map AU), row B' 108 1 (j + 1) capB' (ds ++ [.slice C xs.length capC]), I8 jb g from_ to_ ep end_ L.length (A, cap), row A 108 1 L.length cap cs, D5 5 L cs]) Z8 (by dsimp only; rw [hsn]; exact PF.trans (AD.perm (List.Perm.swap _ _ _))))
 have : j = L.length := by omega
 subst this
 rw [List.take_length]
 refine CF <| ze <| ze <| CE <| zt <| AG <| AR <| zm rfl <| zs rfl <| zn <| zq <| ?_
 exact zz rfl rfl fun w' H' => ⟨(B, capB, ds), rfl, H'.AK (AD.cons (AD.cons SP))⟩
theorem lT (x : EO) (v : Value) (W : List BA) (n : Nat) (hW : W = C1 x) (hn : W.length = n) (h : OE x) (HA : Old D w (AX.rep x.2.2.2 [v])) :
  Calls Tryz.prog 99 #[.agg #[.int .i64 x.1, .int .u32 x.2.1, .int .u32 x.2.2.1, v]] w fun e w' => ∃ q : Option Addr × Nat, e = .returned (.tuple #[.slice q.1 n q.2, .int .i64 0]) ∧ AH D w w' [row q.1 61 64 n q.2 (W.flatMap BI)] := by
 subst hn; subst hW
 exact aA D w x h v HA
theorem Y5 (jb g from_ to_ ep end_ : Nat) (L ps : List (List UInt8)) (v : Value) (hle : end_ ≤ to_) (hto : to_ ≤ 100000) (hp : ps.flatten.length ≤ 4000) (hfull : to_ - end_ < DG ps.flatten.length) (HA : Old D w (AX.rep ps [v])) (H : AH D w w [E7 jb g from_ to_ ep end_ L]) :
  Calls Tryz.prog 58 #[.pointer (some ⟨jb, 0, none⟩), v] w fun e w' => e = .returned (.int .i64 12) ∧ AH D w w' [E7 jb g from_ to_ ep end_ L] := by
 obtain ⟨n, hn⟩ : ∃ n, DG ps.flatten.length = n := ⟨_, rfl⟩
 refine BZ (vs := [.pointer (some ⟨jb, 0, none⟩), v]) Tryz.func58 rfl _ Tryz.ntmps58 rfl H ?_
 simp only [BX, Nat.zero_add]
 refine zg <| zs rfl <| zn <| AG <| zg <| zm rfl <| zv (IL rfl rfl) <| zn <| EU rfl <| zk <| zg <| zm rfl <| CQ (σ := Option Addr × Nat) Tryz.call96 rfl rfl (fun w1 => zu fun D' hold _ _ => LM D' w1 v ps AA (hold _ HA)) ?_
 intro q
 try rw [List.nil_append]
 refine zs rfl <| zn <| AG <| BK <| AG <| AR <| zm rfl <| zv BN <| ?_
 refine zv (DV rfl rfl) <| zs rfl <| zn <| CP rfl (AA) ?_
 refine zg <| zm rfl <| zv BN <| ?_
 refine B2 Tryz.call97 rfl rfl (fun w1 => D6 fun D' _ _ _ => WZ D' w1 _ n hn) ?_
 refine zm rfl <| B2 Tryz.call98 rfl rfl (fun w1 => zp (E7 jb g from_ to_ ep end_ L) fun D' _ _ H2 => aH D' w1 jb g from_ to_ ep end_ L hle hto H2) ?_
 refine zv (DV rfl rfl) <| zs rfl <| zn <| GR rfl (AA) ?_
 refine zg <| zs rfl <| zn <| zq <| B4 <| zr <| ?_
 exact zz rfl rfl fun w' H' => ⟨rfl, H'.AK Z8⟩
set_option maxHeartbeats 1000000 in
theorem mT (jb g from_ to_ ep end_ : Nat) (L ps : List (List UInt8)) (v : Value) (S : List BA) (x : List UInt8) (hx : x = ps.flatten) (E : List BA) (hE : E = C1 (EY ep L.length x)) (n : Nat) (hn : DG x.length = n) (hle : end_ ≤ to_) (hto : to_ ≤ S.length) (hS : S.length ≤ 100000) (hp : x.length ≤ 4000) (hfit : n ≤ to_ - end_) (hep : ep < 4294967296) (hL : L.length ≤ 1000000) (HA : Old D w (AX.rep ps [v])) (H : AH D w w [E7 jb g from_ to_ ep end_ L, BR g S []]) :
  Calls Tryz.prog 58 #[.pointer (some ⟨jb, 0, none⟩), v] w fun e w' => e = .returned (.int .i64 0) ∧ AH D w w' [E7 jb g from_ to_ ep (end_ + n) (L ++ [x]), BR g (D7 S end_ E) []] := by
 have hEl : E.length = n := by rw [hE, MT _ hp, hn]
 have hpos := SM (EY ep L.length x)
 rw [← hE] at hpos
 refine BZ (vs := [.pointer (some ⟨jb, 0, none⟩), v]) Tryz.func58 rfl _ Tryz.ntmps58 rfl H ?_
 simp only [BX, Nat.zero_add]
 refine zg <| zs rfl <| zn <| AG <| zg <| zm rfl <| zv (IL rfl rfl) <| zn <| EU rfl <| zk <| zg <| zm rfl <| CQ (σ := Option Addr × Nat) Tryz.call96 rfl rfl (fun w1 => zu fun D' hold _ _ => (hx ▸ LM D' w1 v ps (by rw [← hx]; omega) (hold _ HA))) ?_
 intro qb
 try rw [List.nil_append]
 refine zs rfl <| zn <| AG <| BK <| AG <| AR <| zm rfl <| zv BN <| ?_
 refine zv (DV rfl rfl) <| zs rfl <| zn <| CP rfl (AA) ?_
 refine zg <| zm rfl <| zv BN <| ?_
 refine B2 Tryz.call97 rfl rfl (fun w1 => D6 fun D' _ _ _ => WZ D' w1 _ n hn) ?_
 refine zm rfl <| B2 Tryz.call98 rfl rfl (fun w1 => zp (E7 jb g from_ to_ ep end_ L) fun D' _ _ H2 => aH D' w1 jb g from_ to_ ep end_ L hle AA H2) ?_
 refine zv (DV rfl rfl) <| zs rfl <| zn <| CP rfl (AA) ?_
 refine C3 <| zb <| zt <| AG <| HC.AK (AD.trans (b := E7 jb g from_ to_ ep end_ L :: [BR g S [], row qb.1 5 1 x.length qb.2 (x.map AU)]) Z8 (AD.refl _)) ?_
 refine HC.exs ?_
 rintro ⟨A, cap, cs⟩
 refine HC.AK (l' := I8 jb g from_ to_ ep end_ L.length (A, cap) :: row A 108 1 L.length cap cs :: D5 5 L cs :: [BR g S [], row qb.1 5 1 x.length qb.2 (x.map AU)]) (fun _ h => h) ?_
 refine EF [I8 jb g from_ to_ ep end_ L.length (A, cap)] mixed 18 rfl ?_
 refine AE 0 rfl (AO rfl) rfl <| AE 1 rfl (AY rfl) rfl <| AE 2 rfl (AP rfl) rfl <| AE 3 rfl (zw rfl rfl) rfl <| AE 4 rfl (AO rfl) rfl <| AE 5 rfl (AY rfl) rfl <| AE 6 rfl (AP rfl) rfl <| AE 7 rfl (zw rfl rfl) rfl <| AE 8 rfl BN rfl <| ?_
 refine AE 10 rfl (AO rfl) rfl <| AL 9 AB <| CW rfl (CD (m := ((L.length : Nat) : Int)) rfl (wrap_u32 AA)) rfl ?_
 refine AE 11 rfl (CH rfl rfl) rfl <| ?_
 refine AL 12 AB <| CR (σ := Option Addr × Nat) rfl Tryz.call99 rfl (fun w1 => zu fun D' _ hin _ => lT D' w1 (EY ep L.length x) (.slice qb.1 x.length qb.2) E n hE hEl ⟨show 1 < 256 by decide, hep, show L.length < 4294967296 by omega, hp⟩ (hin _ fun h hs ho => C7 (A := qb.1) hs x rfl (DQ.2 rfl))) ?_
 intro qe
 try rw [List.nil_append]
 refine AE 13 rfl (AO rfl) rfl <| AE 14 rfl (I9 rfl rfl) rfl <| AE 15 rfl (I9 rfl rfl) rfl <| AE 16 rfl (DH rfl) rfl <| AE 17 rfl (DH rfl) rfl <| BY AB <| zt <| AG <| zg <| zm rfl <| ?_
 refine zv (CG rfl rfl) <| zn <| CP rfl ((fun h => h rfl)) <| zk <| AG <| AG <| E2 9 mixed AB ?_
 refine AT (AO rfl) rfl <| AT (AY rfl) rfl <| AT (AP rfl) rfl <| ?_
 refine AT (MI rfl rfl) rfl ?_
 refine AT (AO rfl) rfl <| AT (AY rfl) rfl <| AT (AP rfl) rfl <| AT (zw rfl rfl) rfl <| AT (AO rfl) rfl <| EV <| ?_
 refine B2 Tryz.call100 rfl rfl (fun w1 => zp (BR g S []) fun D' _ hin H2 => nG D' w1 g from_ to_ end_ n S E _ hS AA hEl.symm AA (hin _ fun h hs ho => C7 (A := qe.1) hs E hEl.symm (L4.2 rfl)) H2) ?_
 refine zs rfl <| zn <| zg <| zm rfl <| zv (CG rfl rfl) <| zn <| CP rfl ((fun h => h rfl)) <| zk <| zg <| zm rfl <| zm rfl <| zv (AY rfl) <| zf rfl <| zl rfl rfl <| zm rfl <| AV (BS rfl rfl rfl) rfl rfl rfl fun b62 =>  ?_
 refine AV (BT (A := A) (news := [.slice qb.1 x.length qb.2]) rfl rfl (BB.AI (b := b62)) rfl CL AF AA) rfl rfl rfl ?_
 rintro ⟨A', cap'⟩
 dsimp only
 refine zv (AY rfl) <| zf rfl <| A6 (DN rfl rfl rfl rfl rfl) rfl rfl <| zn <| AG <| ?_
 refine AR <| zm rfl <| zv (AY rfl) <| zf rfl <| zl rfl rfl <| zm rfl <| ?_
 refine zv BN <| ?_
 refine AZ (BM (m := ((end_ + n : Nat) : Int)) rfl rfl ((wrap_i64 AA).trans AA)) rfl ?_
 refine zv (AY rfl) <| zf rfl <| A6 (DN rfl rfl rfl rfl rfl) rfl rfl <| zn <| AG <| ?_
 refine AR <| zs rfl <| zn <| zq <| ?_
 exact zz rfl rfl fun w' H' => ⟨rfl, H'.AK (AD.trans (b := D5 5 L cs :: row qb.1 5 1 x.length qb.2 (x.map AU) :: [I8 jb g from_ to_ ep (end_ + n) (L.length + 1) (A', cap'), row A' 108 1 (L.length + 1) cap' (cs ++ [.slice qb.1 x.length qb.2]), BR g (D7 S end_ E) []]) Z8 (AD.trans PF (by have hj := SP (jb := jb) (g := g) (from_ := from_) (to_ := to_) (ep := ep) (end_ := end_ + n) (L := L ++ [x]) (A := A') (cap := cap') (cs := cs ++ [.slice qb.1 x.length qb.2]) (l := [BR g (D7 S end_ E) []]); rw [List.length_append] at hj; exact AD.trans Z8 hj)))⟩
set_option maxHeartbeats 2000000 in
theorem pS (g : Nat) (S : List BA) (from_ to_ N : Nat) (T : List BA) (ep : Nat) (hto : to_ ≤ S.length) (hS : S.length ≤ 100000) (hN : from_ + N = to_) (hN0 : 0 < N) (hT : T = (S.drop from_).take N) (H : AH D w w [BR g S []]) :
  Calls Tryz.prog 47 #[.pointer (some ⟨g, 0, none⟩), .int .i64 (from_ : Int), .int .i64 (to_ : Int), .int .u32 (ep : Int)] w fun e w' => ∃ jb : Nat, e = .returned (.tuple #[.pointer (some ⟨jb, 0, none⟩), .int .i64 0]) ∧ AH D w w' [E7 jb g from_ to_ ep (from_ + (E9 ep N 0 T).2) (E9 ep N 0 T).1, BR g S []] := by
 have hTl : T.length = N := by rw [hT, List.length_take, List.length_drop]; omega
 refine BZ (vs := [.pointer (some ⟨g, 0, none⟩), .int .i64 (from_ : Int), .int .i64 (to_ : Int), .int .u32 (ep : Int)]) Tryz.func47 rfl _ Tryz.ntmps47 rfl H ?_
 simp only [BX, Nat.zero_add]
 refine zg <| zs rfl <| zs rfl <| zn <| AG <| zg <| zm rfl <| zv (IL rfl rfl) <| zm rfl <| AJ rfl rfl <| zm rfl <| AJ rfl rfl <| zv (B7 rfl rfl) <| zv (A8 rfl rfl) <| zm rfl <| F0 (t := 21) rfl (AA) ?_
 refine AJ rfl rfl <| zm rfl <| AJ rfl rfl <| zm rfl <| AJ rfl rfl <| zv (GN rfl rfl) <| zv (A8 rfl rfl) <| zm rfl <| F0 (t := 26) rfl (AA) ?_
 refine AJ rfl rfl <| zm rfl <| AJ rfl rfl <| zm rfl <| AJ rfl rfl <| B2 Tryz.call44 rfl rfl (fun w1 => zp (BR g S []) fun D' _ _ H2 => SE D' w1 g S [] H2) ?_
 refine AJ rfl rfl <| zv (DV rfl rfl) <| zv (A8 rfl rfl) <| zn <| CP rfl (AA) ?_
 refine zk <| zg <| zm rfl <| zm rfl <| zm rfl <| zv (CH rfl rfl) <| ?_
 refine zm rfl <| zm rfl <| zv (CH rfl rfl) <| ?_
 refine AV (EE rfl rfl) rfl rfl rfl fun b39 =>  ?_
 refine zs rfl <| zn <| zg <| zm rfl <| zv (AY rfl) <| zf rfl <| ?_
 refine AZ (MI rfl rfl) rfl <| zm rfl <| CQ (σ := Option Addr × Nat) Tryz.call78 rfl rfl (fun w1 => EZ (BR g S []) fun D' _ _ H2 => iW D' w1 g from_ to_ from_ N S T hto hS hN hT H2) ?_
 rintro ⟨A, cap⟩
 dsimp only
 refine HL.fact (fun w H => AH.GS A H) ?_
 rintro ⟨_, hcap, hcap2, _⟩
 refine zs rfl <| zn <| AG <| BK <| GL (σ := Nat × List (List UInt8) × (Option Addr × Nat × List Value) × (Option Addr × Nat)) [3, 10] rfl 11 (fun s => .slice s.2.2.2.1 (N - s.1) s.2.2.2.2) (fun s => [I8 b39 g from_ to_ ep (from_ + s.1) s.2.1.length (s.2.2.1.1, s.2.2.1.2.1), row s.2.2.1.1 108 1 s.2.1.length s.2.2.1.2.1 s.2.2.1.2.2, D5 5 s.2.1 s.2.2.1.2.2, row A 61 64 N cap (T.flatMap BI), BR g S []]) (fun s => s.1 ≤ N ∧ s.2.1.length ≤ s.1 ∧ N - s.1 ≤ s.2.2.2.2 ∧ (∀ h, AX.rep T [.slice A N cap] h → AX.rep (T.drop s.1) [.slice s.2.2.2.1 (N - s.1) s.2.2.2.2] h) ∧ E9 ep N 0 T = (s.2.1 ++ (E9 ep (N - s.2.1.length) s.2.1.length (T.drop s.1)).1, s.1 + (E9 ep (N - s.2.1.length) s.2.1.length (T.drop s.1)).2)) (fun s => N - s.1) ((0, [], (none, 0, []), (A, cap))) (⟨Nat.zero_le _, Nat.le_refl _, hcap, fun _ h => h, by simp⟩) rfl (AD.trans (b := I8 b39 g from_ to_ ep from_ 0 (none, 0) :: [row A 61 64 N cap (T.flatMap BI), BR g S []]) Z8 (AD.cons (R9.trans (AD.EB 108 1)))) ?_
 rintro ⟨k, LL, ⟨qa, qc, ds⟩, A2, cp2⟩ hj_ K1 hK1
 dsimp only at hj_ ⊢
 obtain ⟨hkN, hLk, hc2, hrep, hent⟩ := hj_
 refine AG <| zg <| zm rfl <| zv BN <| ?_
 refine zv (DV rfl rfl) <| zn <| BP rfl (fun hgo => ?_) (fun hgo => ?_)
 ·have hk : k < N := by omega
  obtain ⟨f, hf⟩ : ∃ f, N - LL.length = f + 1 := ⟨N - LL.length - 1, by omega⟩
  rw [hf] at hent
  rw [E9] at hent
  rcases hd : FN (T.drop k) with _ | ⟨x, n⟩
  ·have hfin : E9 ep N 0 T = (LL, k) := by rw [hent, hd]; simp
   refine zk <| BK <| zg <| zm rfl <| B2 Tryz.call79 rfl rfl (fun w1 => D6 fun D' _ hin _ => YS D' w1 _ (T.drop k) hd (hin _ fun h hs ho => hrep _ (C7 (A := A) hs T hTl.symm (L4.2 rfl)))) ?_
   refine zm rfl <| zx rfl rfl <| zx rfl rfl <| zx rfl rfl <| AV (B9) rfl rfl rfl fun b12 =>  ?_
   refine A6 (CV (vs := [.int .i64 0, .int .u32 0, .int .u32 0, .slice none 0 0]) rfl rfl (by simp) (by simp) CL) rfl rfl ?_
   refine zs rfl <| zs rfl <| zn <| AG <| AG <| GM mixed AB <| AM (AO rfl) rfl <| AM (CG rfl rfl) rfl <| AM (AO rfl) rfl <| ?_
   refine UH (t := 57) rfl (AF) ?_
   refine BG rfl rfl rfl rfl rfl rfl <| BG rfl rfl rfl rfl rfl rfl <| BG rfl rfl rfl rfl rfl rfl <| AM (BF rfl rfl) rfl <| AM (AO rfl) rfl <| BG rfl rfl rfl rfl rfl rfl <| ?_
   refine BG rfl rfl rfl rfl rfl rfl <| BG rfl rfl rfl rfl rfl rfl <| BG rfl rfl rfl rfl rfl rfl <| AM (BF rfl rfl) rfl <| AM (AO rfl) rfl <| BG rfl rfl rfl rfl rfl rfl <| ?_
   refine BG rfl rfl rfl rfl rfl rfl <| BG rfl rfl rfl rfl rfl rfl <| BG rfl rfl rfl rfl rfl rfl <| BG rfl rfl rfl rfl rfl rfl <| BG rfl rfl rfl rfl rfl rfl <| BG rfl rfl rfl rfl rfl rfl <| ?_
   refine BG rfl rfl rfl rfl rfl rfl <| BG rfl rfl rfl rfl rfl rfl <| AM (BF rfl rfl) rfl <| EM <| zt <| DD rfl <| ?_
   refine CF <| ze <| FO rfl <| ze <| CE <| zt <| zg <| zm rfl <| zs rfl <| zs rfl <| AS <| zt <| zq <| ?_
   exact E5 (.inr rfl) rfl rfl rfl fun w' H' => ⟨b39, rfl, H'.AK (AD.trans (b := I8 b39 g from_ to_ ep (from_ + k) LL.length (qa, qc) :: row qa 108 1 LL.length qc ds :: D5 5 LL ds :: [BR g S []]) Z8 S5)⟩
  rw [hd] at hent
  dsimp only at hent
  have hnk : 1 ≤ n ∧ n ≤ (T.drop k).length := by
   rcases hTk : T.drop k with _ | ⟨s, r⟩
   ·have := congrArg List.length hTk
    rw [List.length_drop, List.length_nil] at this; omega
   ·rw [hTk] at hd; exact (SA hd).2
  rw [List.length_drop] at hnk
  refine zk <| BK <| zg <| zm rfl <| CQ (σ := Option Addr × Nat) Tryz.call79 rfl rfl (fun w1 => zu fun D' _ hin _ => Y3 D' w1 _ (T.drop k) x n hd (hin _ fun h hs ho => hrep _ (C7 (A := A) hs T hTl.symm (L4.2 rfl)))) ?_
  intro qx
  try rw [List.nil_append]
  refine zm rfl <| zx rfl rfl <| zx rfl rfl <| zx rfl rfl <| AV (B9) rfl rfl rfl fun b12 =>  ?_
  refine A6 (CV (vs := M1 x qx) rfl rfl (by simp [M1]) (by simp [M1]) (by simp [M1, Value.oneCell'])) rfl rfl ?_
  refine zs rfl <| zs rfl <| zn <| AG <| AG <| GM mixed AB <| AM (AO rfl) rfl <| AM (CG rfl rfl) rfl <| AM (AO rfl) rfl <| ?_
  refine XA (t := 57) rfl ((fun h => h rfl)) ?_
  refine B6 rfl rfl <| AM (AP rfl) rfl <| B6 rfl rfl <| AM (zw rfl rfl) rfl <| B6 rfl rfl <| AM (CG rfl rfl) rfl <| AM (A8 rfl rfl) rfl <| AM (AO rfl) rfl <| ?_
  refine JC (t := 62) rfl (fun c1 => ?_) (fun c1 => ?_)
  ·have hfin : E9 ep N 0 T = (LL, k) := by rw [hent, if_neg AA]; simp
   refine BG rfl rfl rfl rfl rfl rfl <| BG rfl rfl rfl rfl rfl rfl <| BG rfl rfl rfl rfl rfl rfl <| BG rfl rfl rfl rfl rfl rfl <| AM (BF rfl rfl) rfl <| AM (AO rfl) rfl <| ?_
   refine BG rfl rfl rfl rfl rfl rfl <| BG rfl rfl rfl rfl rfl rfl <| BG rfl rfl rfl rfl rfl rfl <| BG rfl rfl rfl rfl rfl rfl <| BG rfl rfl rfl rfl rfl rfl <| BG rfl rfl rfl rfl rfl rfl <| ?_
   refine BG rfl rfl rfl rfl rfl rfl <| BG rfl rfl rfl rfl rfl rfl <| BG rfl rfl rfl rfl rfl rfl <| AM (BF rfl rfl) rfl <| EM <| zt <| ?_
   refine DD rfl <| CF <| ze <| FO rfl <| ze <| CE <| zt <| zg <| zm rfl <| zs rfl <| zs rfl <| zn <| zq <| ?_
   exact E5 (.inr rfl) rfl rfl rfl fun w' H' => ⟨b39, rfl, H'.AK (AD.trans (b := I8 b39 g from_ to_ ep (from_ + k) LL.length (qa, qc) :: row qa 108 1 LL.length qc ds :: D5 5 LL ds :: [BR g S []]) Z8 S5)⟩
  refine B6 rfl rfl <| AM (AP rfl) rfl <| B6 rfl rfl <| AM (zw rfl rfl) rfl <| B6 rfl rfl <| AM (AO rfl) rfl <| B6 rfl rfl <| AM (CG rfl rfl) rfl <| AM (A8 rfl rfl) rfl <| AM (AO rfl) rfl <| ?_
  refine JC (t := 68) rfl (fun c2 => ?_) (fun c2 => ?_)
  ·have hfin : E9 ep N 0 T = (LL, k) := by rw [hent, if_neg AA]; simp
   refine BG rfl rfl rfl rfl rfl rfl <| BG rfl rfl rfl rfl rfl rfl <| BG rfl rfl rfl rfl rfl rfl <| BG rfl rfl rfl rfl rfl rfl <| BG rfl rfl rfl rfl rfl rfl <| BG rfl rfl rfl rfl rfl rfl <| ?_
   refine BG rfl rfl rfl rfl rfl rfl <| BG rfl rfl rfl rfl rfl rfl <| BG rfl rfl rfl rfl rfl rfl <| AM (BF rfl rfl) rfl <| EM <| zt <| ?_
   refine DD rfl <| CF <| ze <| FO rfl <| ze <| CE <| zt <| zg <| zm rfl <| zs rfl <| zs rfl <| zn <| zq <| ?_
   exact E5 (.inr rfl) rfl rfl rfl fun w' H' => ⟨b39, rfl, H'.AK (AD.trans (b := I8 b39 g from_ to_ ep (from_ + k) LL.length (qa, qc) :: row qa 108 1 LL.length qc ds :: D5 5 LL ds :: [BR g S []]) Z8 S5)⟩
  refine B6 rfl rfl <| AM (AP rfl) rfl <| B6 rfl rfl <| AM (zw rfl rfl) rfl <| B6 rfl rfl <| AM (AO rfl) rfl <| B6 rfl rfl <| AM (AY rfl) rfl <| B6 rfl rfl <| AM (AP rfl) rfl <| B6 rfl rfl <| AM (zw rfl rfl) rfl <| ?_
  refine B6 rfl rfl <| AM BN rfl <| ?_
  refine B6 rfl rfl <| AM (CD (m := ((LL.length : Nat) : Int)) rfl (wrap_u32 AA)) rfl ?_
  refine B6 rfl rfl <| AM (CG rfl rfl) rfl <| AM (A8 rfl rfl) rfl <| EM <| zt <| ?_
  refine BP rfl (fun c3 => ?_) (fun c3 => ?_)
  ·have hfin : E9 ep N 0 T = (LL, k) := by rw [hent, if_neg AA]; simp
   refine CF <| ze <| FO rfl <| ze <| CE <| zt <| zg <| zm rfl <| zs rfl <| zs rfl <| AS <| zt <| zq <| ?_
   exact E5 (.inr rfl) rfl rfl rfl fun w' H' => ⟨b39, rfl, H'.AK (AD.trans (b := I8 b39 g from_ to_ ep (from_ + k) LL.length (qa, qc) :: row qa 108 1 LL.length qc ds :: D5 5 LL ds :: [BR g S []]) Z8 S5)⟩
  rw [if_pos ⟨by omega, by omega, by omega⟩] at hent
  have hLx : (LL ++ [x.2.2.2]).length = LL.length + 1 := by simp
  obtain ⟨A3, hA3⟩ : ∃ A3 : Option Addr, A3 = if cp2 = n then A2 else A2.map (·.add (n * 64)) := ⟨_, rfl⟩
  have hrep2 : ∀ h, AX.rep T [.slice A N cap] h → AX.rep (T.drop (k + n)) [.slice A3 (N - (k + n)) (cp2 - n)] h := fun h hh => by
   have := I4 (hrep h hh) n (N - k) AA MG
   rw [List.drop_drop, List.take_of_length_le MG, Nat.sub_sub] at this
   rw [hA3]; exact this
  have hent2 : E9 ep N 0 T = ((LL ++ [x.2.2.2]) ++ (E9 ep (N - (LL ++ [x.2.2.2]).length) (LL ++ [x.2.2.2]).length (T.drop (k + n))).1, (k + n) + (E9 ep (N - (LL ++ [x.2.2.2]).length) (LL ++ [x.2.2.2]).length (T.drop (k + n))).2) := by
   rw [hent, hLx, show N - (LL.length + 1) = f by omega, List.drop_drop, List.append_assoc, Nat.add_assoc]; rfl
  refine zk <| AG <| EF [AI b12 172 (M1 x qx)] mixed 12 rfl ?_
  refine AE 0 rfl (AO rfl) rfl <| AE 1 rfl (AO rfl) rfl <| AE 2 rfl (AY rfl) rfl <| AE 3 rfl (AP rfl) rfl <| AE 5 rfl (AP rfl) rfl <| AE 6 rfl (zw rfl rfl) rfl <| DE 4 7 AB ?_ ?_
  ·skip
   refine CW rfl (zw rfl rfl) rfl <| AL 7 AB <| BC rfl (BS rfl rfl rfl) rfl (fun b86 => ?_)
   refine AL 8 AB <| BC rfl (BT (A := qa) (news := [.slice qx.1 x.2.2.2.length qx.2]) rfl rfl (BB.AI (b := b86)) rfl CL AF AA) rfl ?_
   rintro ⟨A', cap'⟩
   dsimp only
   refine AE 9 rfl (AY rfl) rfl <| AE 10 rfl (AP rfl) rfl <| AL 11 AB <| CB rfl (DN rfl rfl rfl rfl rfl) rfl ?_
   refine BY AB <| ?_
   refine zt <| zg <| zm rfl <| zv (AY rfl) <| zf rfl <| ?_
   refine zl rfl rfl <| zm rfl <| AZ (BM (m := ((from_ + (k + n) : Nat) : Int)) rfl rfl ((wrap_i64 AA).trans AA)) rfl ?_
   refine zv (AY rfl) <| zf rfl <| A6 (DN rfl rfl rfl rfl rfl) rfl rfl <| zn <| AR <| ?_
   refine zm rfl <| zm rfl <| AZ (QD (.slice A3 (N - (k + n)) (cp2 - n)) rfl n (N - k) (.inr ⟨_, _, rfl, rfl⟩) (.inl ⟨rfl, rfl⟩) AA AA (by rw [hA3, Nat.sub_sub])) rfl ?_
   refine zs rfl <| AS <| zb <| ?_
   exact B5 hK1 ((k + n, LL ++ [x.2.2.2], (A', cap', ds ++ [.slice qx.1 x.2.2.2.length qx.2]), (A3, cp2 - n))) (⟨by show k + n ≤ N; omega, by show (LL ++ [x.2.2.2]).length ≤ k + n; omega, by show N - (k + n) ≤ cp2 - n; omega, hrep2, hent2⟩) VK BD (AD.trans (b := D5 5 LL ds :: row qx.1 5 1 x.2.2.2.length qx.2 (x.2.2.2.map AU) :: [I8 b39 g from_ to_ ep (from_ + (k + n)) (LL.length + 1) (A', cap'), row A' 108 1 (LL.length + 1) cap' (ds ++ [.slice qx.1 x.2.2.2.length qx.2]), row A 61 64 N cap (T.flatMap BI), BR g S []]) Z8 (AD.trans PF Z4))
  skip
  refine BC rfl (BS rfl rfl rfl) rfl (fun b86 => ?_)
  refine AL 4 AB <| CW rfl (zw rfl rfl) rfl <| AL 8 AB <| BC rfl (BT (A := qa) (news := [.slice qx.1 x.2.2.2.length qx.2]) rfl rfl (BB.AI (b := b86)) rfl CL AF AA) rfl ?_
  rintro ⟨A', cap'⟩
  dsimp only
  refine AE 9 rfl (AY rfl) rfl <| AE 10 rfl (AP rfl) rfl <| AL 11 AB <| CB rfl (DN rfl rfl rfl rfl rfl) rfl ?_
  refine BY AB <| ?_
  refine zt <| zg <| zm rfl <| zv (AY rfl) <| zf rfl <| ?_
  refine zl rfl rfl <| zm rfl <| AZ (BM (m := ((from_ + (k + n) : Nat) : Int)) rfl rfl ((wrap_i64 AA).trans AA)) rfl ?_
  refine zv (AY rfl) <| zf rfl <| A6 (DN rfl rfl rfl rfl rfl) rfl rfl <| zn <| AR <| ?_
  refine zm rfl <| zm rfl <| AZ (QD (.slice A3 (N - (k + n)) (cp2 - n)) rfl n (N - k) (.inr ⟨_, _, rfl, rfl⟩) (.inl ⟨rfl, rfl⟩) AA AA (by rw [hA3, Nat.sub_sub])) rfl ?_
  refine zs rfl <| AS <| zb <| ?_
  exact B5 hK1 ((k + n, LL ++ [x.2.2.2], (A', cap', ds ++ [.slice qx.1 x.2.2.2.length qx.2]), (A3, cp2 - n))) (⟨by show k + n ≤ N; omega, by show (LL ++ [x.2.2.2]).length ≤ k + n; omega, by show N - (k + n) ≤ cp2 - n; omega, hrep2, hent2⟩) VK BD (AD.trans (b := D5 5 LL ds :: row qx.1 5 1 x.2.2.2.length qx.2 (x.2.2.2.map AU) :: [I8 b39 g from_ to_ ep (from_ + (k + n)) (LL.length + 1) (A', cap'), row A' 108 1 (LL.length + 1) cap' (ds ++ [.slice qx.1 x.2.2.2.length qx.2]), row A 61 64 N cap (T.flatMap BI), BR g S []]) Z8 (AD.trans PF Z4))
 have hk : k = N := by omega
 have hfin : E9 ep N 0 T = (LL, k) := by
  rw [hent, List.drop_of_length_le AA]
  rw [bL (fun s hs => by simp at hs), List.append_nil]; rfl
 refine CF <| ze <| ze <| CE <| zt <| AG <| AR <| zm rfl <| zs rfl <| zs rfl <| zn <| zq <| ?_
 exact E5 (.inr rfl) rfl rfl rfl fun w' H' => ⟨b39, rfl, H'.AK (AD.trans (b := I8 b39 g from_ to_ ep (from_ + k) LL.length (qa, qc) :: row qa 108 1 LL.length qc ds :: D5 5 LL ds :: [BR g S []]) Z8 S5)⟩
theorem pG (c : CA) (vp vv vs : Value) (hg : C4 c) (H : ER D w c vp vv vs) :
  Calls Tryz.prog 110 #[.agg (C9 c vp vv vs).toArray] w fun e w' => ∃ q : Option Addr × Nat, e = .returned (.tuple #[.slice q.1 (C8 c).length q.2, .int .i64 0]) ∧ AH D w w' [row q.1 5 1 (C8 c).length q.2 ((C8 c).map AU)] :=
 (jU D w c vp vv vs H).mono fun e w' hp => by
  rcases hp with ⟨h, _⟩ | ⟨_, h⟩
  ·exact absurd hg h
  ·exact h
theorem rA (v : Value) (c : CA) (hg : C4 c) (HA : Old D w (AX.rep (C8 c) [v])) :
  Calls Tryz.prog 46 #[v] w fun e w' => ∃ q : DA, e = .returned (.tuple #[.agg (B3 c q).toArray, .int .i64 0]) ∧ AH D w w' (C6 c q) :=
 (kM D w v (C8 c) HA).mono fun e w' ⟨⟨⟨q, d, er⟩, hr⟩, he, H'⟩ => by
  obtain ⟨h1, h2⟩ := o7 (xs := C8 c) v hg rfl
  rcases hr with ⟨k, _⟩ | ⟨_, k2, k3⟩
  ·exact absurd h1 k
  ·have k2 : d = c := k2.trans h2
   have k3 : er = 0 := k3
   subst k2; subst k3
   exact ⟨q, he, H'⟩
theorem rT (v : Value) (l : List C5) (hl : G0 l) (HA : Old D w (AX.rep (AW l) [v])) :
  Calls Tryz.prog 80 #[v] w fun e w' => ∃ q : Option Addr × Nat, e = .returned (.tuple #[.slice q.1 l.length q.2, .int .i64 0]) ∧ AH D w w' [row q.1 81 7 l.length q.2 (l.flatMap DL)] :=
 (m7 D w v (AW l) HA).mono fun e w' ⟨⟨⟨q, d, er⟩, hr⟩, he, H'⟩ => by
  obtain ⟨h1, h2⟩ := fS (l := l) v hl
  rcases hr with ⟨k, _⟩ | ⟨_, k2, k3⟩
  ·exact absurd h1 k
  ·have k2 : d = l := k2.trans h2
   have k3 : er = 0 := k3
   subst k2; subst k3
   exact ⟨q, he, H'⟩
theorem rP (v : Value) (l : List C5) (hl : G0 l) (HA : Old D w (AX.rep l [v])) :
  Calls Tryz.prog 57 #[v] w fun e w' => ∃ q : Option Addr × Nat, e = .returned (.tuple #[.slice q.1 (AW l).length q.2, .int .i64 0]) ∧ AH D w w' [row q.1 5 1 (AW l).length q.2 ((AW l).map AU)] :=
 (ZH D w v l (by have := hl.1; omega) HA).mono fun e w' hp => by
  rcases hp with ⟨h, _⟩ | ⟨_, ⟨i, hi, hb⟩, _⟩ | ⟨_, _, h⟩
  ·exact absurd hl.1 AA
  ·exact absurd (hl.2 i hi) hb
  ·exact h
theorem rG (v : Value) (l : List C5) (h32 : l.length ≤ 32) (hl : ¬ G0 l) (HA : Old D w (AX.rep l [v])) :
  Calls Tryz.prog 57 #[v] w fun e w' => e = .returned (.tuple #[.slice none 0 0, .int .i64 11]) ∧ AH D w w' [] :=
 (ZH D w v l AA HA).mono fun e w' hp => by
  rcases hp with ⟨h, _⟩ | ⟨_, _, h⟩ | ⟨h1, h2, _⟩
  ·omega
  ·exact h
  ·exact absurd ⟨h1, h2⟩ hl
theorem e8 (c : CA) (vp vv vs v1 : Value) (l : List C5) (d : CA) (er : Int) (hr : D9 c l = (d, er)) (hll : l.length ≤ 1000000) (HC0 : ER D w c vp vv vs) (HE : Old D w (AX.rep l [v1])) :
  Calls Tryz.prog 56 #[.agg (C9 c vp vv vs).toArray, v1] w fun e w' => ∃ q : DA, e = .returned (.tuple #[.agg (B3 d q).toArray, .int .i64 er]) ∧ AH D w w' (C6 d q) :=
 (l9 D w c vp vv vs v1 l hll HC0 HE).mono fun e w' ⟨⟨⟨q, d', er'⟩, hR⟩, he, H'⟩ => by
  have h := (gH hR).trans hr
  injection h with h1 h2
  subst h1; subst h2
  exact ⟨q, he, H'⟩
theorem pK (n : Nat) (h1 : 1 ≤ n) (h2 : n ≤ 8) :
  Calls Tryz.prog 74 #[.int .i64 n] w fun e w' => ∃ q : DA, e = .returned (.tuple #[.agg (B3 (E0 n) q).toArray, .int .i64 0]) ∧ AH D w w' (C6 (E0 n) q) :=
 (lH D w n h1 h2).mono fun e w' ⟨q, he, H'⟩ => by
  have hl : (E0 n).2.2.2.1.length = n := List.length_replicate
  refine ⟨(q.1, (some ⟨q.2, 0, none⟩, 1), (none, 0)), ?_, ?_⟩
  ·rw [he]; simp only [B3, hl]; rfl
  ·refine H'.AK ?_
   simp only [C6, hl]
   exact AD.cons (AD.cons ((AD.nil _).trans (AD.EB 149 3)))
theorem aI (g ep : Nat) (S : List BA) (c : CA) (vp vv vs : Value) (hS : 32 ≤ S.length) (hg : C4 c) (hep : ep < 4294967296) (HC : ER D w c vp vv vs) (H : AH D w w [BR g S []]) :
  Calls Tryz.prog 69 #[.pointer (some ⟨g, 0, none⟩), .int .u32 (ep : Int), .agg (C9 c vp vv vs).toArray] w fun e w' => e = .returned (.int .i64 0) ∧ AH D w w' [BR g (FK S ep (C8 c)) []] := by
 have hsm := NS hg
 refine BZ (vs := [.pointer (some ⟨g, 0, none⟩), .int .u32 (ep : Int), .agg (C9 c vp vv vs).toArray]) Tryz.func69 rfl _ Tryz.ntmps69 rfl H ?_
 simp only [BX, Nat.zero_add]
 refine zg <| AV (PT (cs := C9 c vp vv vs) rfl) rfl rfl rfl (fun b5 => ?_)
 refine zs rfl <| zn <| zg <| AZ (FV rfl rfl) rfl <| CQ (σ := Option Addr × Nat) Tryz.call110 rfl rfl (fun w1 => zu fun D' hold _ _ => pG D' w1 c vp vv vs hg (HC.hold hold)) ?_
 intro q
 try rw [List.nil_append]
 refine zm rfl <| zx rfl rfl <| zx rfl rfl <| zs rfl <| zs rfl <| AS <| zt <| AG <| zg <| zm rfl <| zv (CG rfl rfl) <| zn <| CP rfl ((fun h => h rfl)) <| zk <| zg <| zm rfl <| zm rfl <| zm rfl <| B2 Tryz.call111 rfl rfl (fun w1 => zp (BR g S []) fun D' _ hin H2 => qX D' w1 g S ep _ (C8 c) hS hep hsm (hin _ fun h hs ho => C7 (A := q.1) hs (C8 c) rfl (DQ.2 rfl)) H2) ?_
 refine zs rfl <| zn <| zq <| ?_
 exact zz rfl rfl fun w' H' => ⟨rfl, H'.AK Z8⟩
theorem mV (g : Nat) (p : Int) (S : List BA) (ep : Nat) (xs : List UInt8) (hS : 32 ≤ S.length) (hL : HM S = (ep, xs, 0)) (H : AH D w w [BR g S []]) :
  Calls Tryz.prog 45 #[.pointer (some ⟨g, 0, none⟩), .int .i64 p] w fun e w' => ∃ q : Option Addr × Nat, e = .returned (.tuple #[.int .u32 (ep : Int), .slice q.1 xs.length q.2, .int .i64 0]) ∧ AH D w w' [BR g S [], row q.1 5 1 xs.length q.2 (xs.map AU)] := by
 refine BZ (vs := [.pointer (some ⟨g, 0, none⟩), .int .i64 p]) Tryz.func45 rfl _ Tryz.ntmps45 rfl H ?_
 simp only [BX, Nat.zero_add]
 refine zg <| zs rfl <| zs rfl <| zs rfl <| AS <| zt <| zg <| zm rfl <| CQ (σ := Option Addr × Nat) Tryz.call73 rfl rfl (fun w1 => EZ (BR g S []) fun D' _ _ H2 => XK D' w1 g S ep xs 0 hL hS H2) ?_
 intro q
 refine zm rfl <| zx rfl rfl <| zx rfl rfl <| zx rfl rfl <| zs rfl <| zs rfl <| zs rfl <| zn <| AG <| zg <| zm rfl <| zv (CG rfl rfl) <| zn <| GR rfl (AF) ?_
 refine zg <| zm rfl <| zm rfl <| zm rfl <| zs rfl <| zs rfl <| zs rfl <| zn <| zq <| zr <| ?_
 exact T4 (.inr rfl) rfl rfl rfl rfl fun w' H' => ⟨q, rfl, H'⟩
theorem l6 (g p : Nat) (S S1 : List BA) (hS : 32 ≤ S.length) (hp1 : 1 ≤ p) (hp8 : p ≤ 8) (hL : HM S = (0, [], 13)) (hS1 : S1 = FK S 1 (C8 (E0 p))) (hL1 : HM S1 = (1, C8 (E0 p), 0)) (H : AH D w w [BR g S []]) :
  Calls Tryz.prog 45 #[.pointer (some ⟨g, 0, none⟩), .int .i64 (p : Int)] w fun e w' => ∃ q : Option Addr × Nat, e = .returned (.tuple #[.int .u32 1, .slice q.1 (C8 (E0 p)).length q.2, .int .i64 0]) ∧ AH D w w' [BR g S1 [], row q.1 5 1 (C8 (E0 p)).length q.2 ((C8 (E0 p)).map AU)] := by
 have hg := TF p hp1 hp8
 have hl1 : S1.length = S.length := by rw [hS1]; exact T9 hS (NS hg)
 refine BZ (vs := [.pointer (some ⟨g, 0, none⟩), .int .i64 (p : Int)]) Tryz.func45 rfl _ Tryz.ntmps45 rfl H ?_
 simp only [BX, Nat.zero_add]
 refine zg <| zs rfl <| zs rfl <| zs rfl <| AS <| zt <| zg <| zm rfl <| CQ (σ := Option Addr × Nat) Tryz.call73 rfl rfl (fun w1 => EZ (BR g S []) fun D' _ _ H2 => XK D' w1 g S 0 [] 13 hL hS H2) ?_
 intro q0
 refine zm rfl <| zx rfl rfl <| zx rfl rfl <| zx rfl rfl <| zs rfl <| zs rfl <| zs rfl <| zn <| AG <| zg <| zm rfl <| zv (CG rfl rfl) <| zn <| CP rfl ((fun h => h rfl)) <| zk <| zg <| zm rfl <| CQ (σ := DA) Tryz.call74 rfl rfl (fun w1 => zu fun D' _ _ _ => pK D' w1 p hp1 hp8) ?_
 intro qc
 try rw [List.nil_append]
 refine zm rfl <| zx rfl rfl <| zx rfl rfl <| AV (B9) rfl rfl rfl fun b10 =>  ?_
 refine A6 (CV (vs := B3 (E0 p) qc) rfl rfl rfl (by simp) CL) rfl rfl ?_
 refine zs rfl <| zn <| AG <| zg <| zm rfl <| zv (CG rfl rfl) <| zn <| CP rfl ((fun h => h rfl)) <| zk <| AG <| zg <| zm rfl <| AZ (FV rfl rfl) rfl <| B2 Tryz.call69 rfl rfl (fun w1 => zp (BR g S []) fun D' _ hin H2 => (aI D' w1 g 1 S (E0 p) _ _ _ hS hg AF (ER.rows (q := qc) (TY p hp8) hin) H2).mono fun e w' ⟨he, H'⟩ => ⟨he, show AH D' w1 w' [BR g S1 []] by rw [hS1]; exact H'⟩) ?_
 refine zs rfl <| zn <| zg <| zm rfl <| zv (CG rfl rfl) <| zn <| CP rfl ((fun h => h rfl)) <| zk <| zg <| zm rfl <| CQ (σ := Option Addr × Nat) Tryz.call73 rfl rfl (fun w1 => EZ (BR g S1 []) fun D' _ _ H2 => XK D' w1 g S1 1 (C8 (E0 p)) 0 hL1 AA H2) ?_
 intro q2
 refine zx rfl rfl <| zx rfl rfl <| zx rfl rfl <| zs rfl <| zs rfl <| zs rfl <| zn <| zq <| ?_
 exact T4 (.inr rfl) rfl rfl rfl rfl fun w' H' => ⟨q2, rfl, H'.AK Z8⟩
set_option maxHeartbeats 1000000 in
theorem YK (c : CA) (q : DA) (v : Value) (Ls : List (List C5)) (d : CA) (hok : JH c) (hr : JW c Ls = some d) (hLs : ∀ l ∈ Ls, G0 l ∧ ∀ x ∈ l, Flat.ok x) (HA : Old D w (AX.rep (Ls.map AW) [v])) (H : AH D w w (C6 c q)) :
  Calls Tryz.prog 48 #[.agg (B3 c q).toArray, v] w fun e w' => ∃ q' : DA, e = .returned (.tuple #[.agg (B3 d q').toArray, .int .i64 0]) ∧ AH D w w' (C6 d q') := by
 obtain ⟨A, cap, rfl, hc1, hc2, hel⟩ := HA.hJ AF
 have hml : (Ls.map AW).length = Ls.length := List.length_map _
 have hst : ∀ i, i ≤ Ls.length → ∃ ci, JW c (Ls.take i) = some ci ∧ JW ci (Ls.drop i) = some d ∧ JH ci := by
  intro i
  induction i with
  | zero => exact fun _ => ⟨c, rfl, hr, hok⟩
  | succ i ih =>
   intro hi
   obtain ⟨ci, h1, h2, h3⟩ := ih AA
   rw [List.drop_eq_getElem_cons AA] at h2
   have h2 : (if (D9 ci Ls[i]).2 = 0 then JW (D9 ci Ls[i]).1 (Ls.drop (i + 1)) else none) = some d := h2
   split at h2
   ·rename_i h0
    refine ⟨_, ?_, h2, SD (N7 ci Ls[i]) h3 (hLs _ (List.getElem_mem AA)).2⟩
    rw [List.take_succ_eq_append_getElem AA]
    exact WA _ _ _ _ h1 h0
   ·cases h2
 refine BZ (vs := [.agg (B3 c q).toArray, .slice A (Ls.map AW).length cap]) Tryz.func48 rfl _ Tryz.ntmps48 rfl H ?_
 simp only [BX, Nat.zero_add]
 refine zg <| AV (PT (cs := B3 c q) rfl) rfl rfl rfl (fun b2 => ?_)
 refine AV (B9) rfl rfl rfl fun b4 => 
  zs rfl <| zn <| AG <| AG <| ?_
 refine AR <| zm rfl <| zv BN <| ?_
 refine zm rfl <| zn <| BK <| GL (σ := Nat × CA) [2, 4, 10, 11] rfl 12 (fun s => .int .i64 (s.1 : Int)) (fun s => [IJ b2 s.2, AI b4 49 [.int .i64 0, .int .i64 0, .int .i64 0, .slice none 0 0, .slice none 0 0, .slice none 0 0]]) (fun s => s.1 ≤ Ls.length ∧ JW s.2 (Ls.drop s.1) = some d ∧ JH s.2) (fun s => Ls.length - s.1) ((0, c)) (⟨Nat.zero_le _, hr, hok⟩) rfl (AD.trans (b := DC b2 c q ++ [AI b4 49 [.int .i64 0, .int .i64 0, .int .i64 0, .slice none 0 0, .slice none 0 0, .slice none 0 0]]) Z8 (D1 q)) ?_
 rintro ⟨i, ci⟩ hj_ K1 hK1
 dsimp only at hj_ ⊢
 obtain ⟨hi, hrc, hoc⟩ := hj_
 refine zg <| zv (B7 rfl rfl) <| zn <| AG <| BP rfl (fun h => ?_) (fun h => ?_)
 ·have hlt : i < Ls.length := by omega
  obtain ⟨hA, cs, hxo, hcs⟩ := hel i AA
  obtain ⟨B, cb, rfl, hxo⟩ := lN hxo
  have hcell : ∀ l', EH D w l' (ab A) (ao A + i * 1) (.slice B (Ls.map AW)[i].length cb) := fun l' => hcs 0 _ rfl l'
  have hli : (Ls.map AW)[i] = AW Ls[i] := by rw [List.getElem_map]
  rw [hli] at hcell hxo
  obtain ⟨hle, hlf⟩ := hLs _ (List.getElem_mem hlt)
  rw [List.drop_eq_getElem_cons hlt] at hrc
  obtain ⟨l, hl⟩ : ∃ l, l = Ls[i] := ⟨_, rfl⟩
  rw [← hl] at hcell hxo hle hlf hrc
  have hrc : (if (D9 ci l).2 = 0 then JW (D9 ci l).1 (Ls.drop (i + 1)) else none) = some d := hrc
  split at hrc
  ·rename_i h0
   obtain ⟨c2, hc2e⟩ : ∃ c2, c2 = (D9 ci l).1 := ⟨_, rfl⟩
   have hed : D9 ci l = (c2, 0) := Prod.ext hc2e.symm h0
   have hoc2 : JH c2 := by rw [hc2e]; exact SD (N7 ci l) hoc hlf
   rw [← hc2e] at hrc
   refine zk <| AG <| BK <| zg <| zv (CZ rfl DP rfl _ rfl AA) <| ?_
   refine AZ (GB rfl (hcell _)) rfl <| zs rfl <| zn <| zg <| zm rfl <| CQ (σ := Option Addr × Nat) Tryz.call80 rfl rfl (fun w1 => zu fun D' hold _ _ => rT D' w1 _ l hle (hold _ hxo)) ?_
   intro qe
   try rw [List.nil_append]
   refine zm rfl <| zx rfl rfl <| zx rfl rfl <| zs rfl <| zs rfl <| AS <| zt <| AG <| zg <| zm rfl <| zv (CG rfl rfl) <| zn <| CP rfl ((fun h => h rfl)) <| HC.AK (AD.trans (b := IJ b2 ci :: [row qe.1 81 7 l.length qe.2 (l.flatMap DL), AI b4 49 [.int .i64 0, .int .i64 0, .int .i64 0, .slice none 0 0, .slice none 0 0, .slice none 0 0]]) Z8 (AD.refl _)) ?_
   refine HC.exs ?_
   intro q2
   refine HC.AK (l' := DC b2 ci q2 ++ [row qe.1 81 7 l.length qe.2 (l.flatMap DL), AI b4 49 [.int .i64 0, .int .i64 0, .int .i64 0, .slice none 0 0, .slice none 0 0, .slice none 0 0]]) (fun _ h => h) ?_
   refine zk <| zg <| AZ (FV rfl rfl) rfl <| zm rfl <| CQ (σ := DA) Tryz.call56 rfl rfl (fun w1 => zu fun D' _ hin _ => e8 D' w1 ci _ _ _ _ l c2 0 hed (by have := hle.1; omega) (ER.rows (q := q2) hoc hin) (hin _ fun h hs ho => C7 (A := qe.1) hs l rfl (KF.2 ⟨rfl, hlf⟩))) ?_
   intro q3
   try rw [List.nil_append]
   refine zm rfl <| zx rfl rfl <| zx rfl rfl <| A6 (CV (vs := B3 c2 q3) rfl rfl rfl (by simp) CL) rfl rfl ?_
   refine zs rfl <| zn <| zg <| zm rfl <| zv (CG rfl rfl) <| zn <| CP rfl ((fun h => h rfl)) <| C3 <| zb <| zt <| AR <| zv (BM rfl rfl BO) <| ?_
   refine zm rfl <| AS <| ?_
   exact B5 hK1 ((i + 1, c2)) (⟨hlt, hrc, hoc2⟩) (by show Ls.length - (i + 1) < Ls.length - i; omega) BD (AD.trans (b := DC b2 c2 q3 ++ [AI b4 49 [.int .i64 0, .int .i64 0, .int .i64 0, .slice none 0 0, .slice none 0 0, .slice none 0 0]]) Z8 (D1 q3))
  cases hrc
 have hil : i = Ls.length := by omega
 rw [hil, List.drop_length] at hrc
 have hrc : some ci = some d := hrc
 injection hrc with hrc
 subst hrc
 refine HC.exs ?_
 intro q2
 refine HC.AK (l' := DC b2 ci q2 ++ [AI b4 49 [.int .i64 0, .int .i64 0, .int .i64 0, .slice none 0 0, .slice none 0 0, .slice none 0 0]]) (fun _ h => h) ?_
 refine CF <| ze <| ze <| CE <| zt <| AG <| AR <| AZ (FV rfl rfl) rfl <| A6 (CV (vs := B3 ci q2) rfl rfl rfl (by simp) CL) rfl rfl ?_
 refine zs rfl <| zn <| zq <| ?_
 exact ID (.inr rfl) rfl rfl (by simp) rfl fun w' H' => ⟨q2, rfl, H'.AK Z8⟩
theorem oM (g : Nat) (S : List BA) (from_ to_ N : Nat) (T : List BA) (ep : Nat) (L : List (List UInt8)) (k end_ : Nat) (hE : E9 ep N 0 T = (L, k)) (he : end_ = from_ + k) (hto : to_ ≤ S.length) (hS : S.length ≤ 100000) (hN : from_ + N = to_) (hN0 : 0 < N) (hT : T = (S.drop from_).take N) (H : AH D w w [BR g S []]) :
  Calls Tryz.prog 47 #[.pointer (some ⟨g, 0, none⟩), .int .i64 (from_ : Int), .int .i64 (to_ : Int), .int .u32 (ep : Int)] w fun e w' => ∃ jb : Nat, e = .returned (.tuple #[.pointer (some ⟨jb, 0, none⟩), .int .i64 0]) ∧ AH D w w' [E7 jb g from_ to_ ep end_ L, BR g S []] := by
 have h := pS D w g S from_ to_ N T ep hto hS hN hN0 hT H
 rw [hE] at h
 subst he
 exact h
theorem aC (jb g from_ to_ ep end_ : Nat) (L ps : List (List UInt8)) (v : Value) (S : List BA) (x : List UInt8) (n end' : Nat) (L' : List (List UInt8)) (S' : List BA) (hx : x = ps.flatten) (hn : DG x.length = n) (he : end' = end_ + n) (hL' : L' = L ++ [x]) (hS' : S' = D7 S end_ (C1 (EY ep L.length x))) (hle : end_ ≤ to_) (hto : to_ ≤ S.length) (hS : S.length ≤ 100000) (hp : x.length ≤ 4000) (hfit : n ≤ to_ - end_) (hep : ep < 4294967296) (hL : L.length ≤ 1000000) (HA : Old D w (AX.rep ps [v])) (H : AH D w w [E7 jb g from_ to_ ep end_ L, BR g S []]) :
  Calls Tryz.prog 58 #[.pointer (some ⟨jb, 0, none⟩), v] w fun e w' => e = .returned (.int .i64 0) ∧ AH D w w' [E7 jb g from_ to_ ep end' L', BR g S' []] := by
 subst he; subst hL'; subst hS'
 exact mT D w jb g from_ to_ ep end_ L ps v S x hx _ rfl n hn hle hto hS hp hfit hep hL HA H
end Go.Proofs.YtjlolpmmpafjeaaGreat
