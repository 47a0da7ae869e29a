import Derived.Test.YtjlolpmmpafjeaaGreatU10
set_option linter.unusedVariables false
set_option linter.unusedSimpArgs false
namespace Go.Proofs.YtjlolpmmpafjeaaGreat
open CN
variable (D : Nat → Prop) (w : World)
section
variable {P : Program} {D : Nat → Prop} {w0 : World} {env : BH} {l : List AQ} {dst : Option Tmp} {ty : TypeId} {pos : String} {after : Array Edge} {g : Option (Nat × Bool)}
theorem l7 {t e : TypeId} {s bb : Nat} {z : List Value} [h : E6 P t e] [hs : CX P e s bb z] {x ol oh om : Operand} {k1 k2 k3 : IntKind} {A : Option Addr} {n cap : Nat} (hx : BQ env x = some (.slice A n cap)) (lo hi mx : Nat)
  (hl : BQ env ol = some (.int k1 lo)) (hh : BQ env oh = some (.int k2 hi)) (hm : BQ env om = some (.int k3 mx)) (h1 : lo ≤ hi) (h2 : hi ≤ mx) (h3 : mx ≤ cap) {R : Value} (hR : Value.slice (if mx = lo then A else A.map (·.add (lo * s))) (hi - lo) (mx - lo) = R) :
  DI P D w0 env l ⟨dst, .slice t x (some ol) (some oh) (some om), ty, pos, after, g⟩ R := .mk fun n' a w E H => by
 subst hR
 have hz := CN.run_sizeOf (P := P) (t := e) w
 simp [hz, execOp, E.eval hx, E.eval hl, E.eval hh, E.eval hm, Instr.sliceAt, run_underlying h.out, Instr.slice, Instr.sliceBounds, Instr.sliceBound, asIntOf, run_sizeOf (P := P) (t := e), h1, h2, h3]
end
def RB (A : Option Addr) (n k : Nat) : Value := .slice (A.map (·.add (63 * k))) (min 63 (n - 63 * k)) (min 63 (n - 63 * k))
theorem j4 (D : Nat → Prop) (w0 : World) (bs bn : Nat) (A : Option Addr) (n cap : Nat) (hn : n ≤ cap) (hc : n ≤ 9000000) (L : Nat → List AQ) :
  gB Tryz.prog D w0 157 [.pointer (some ⟨bs, 0, none⟩), .pointer (some ⟨bn, 0, none⟩)] ((n + 62) / 63) (RB A n) (fun k => AI bs 108 [.slice A n cap] :: AI bn 3 [.int .i64 63] :: L k) := by
 intro lp X W H hY
 refine BZ (vs := [.func (.yield lp) #[] #[], .pointer (some ⟨bs, 0, none⟩), .pointer (some ⟨bn, 0, none⟩)]) Tryz.func157 rfl _ Tryz.ntmps157 rfl H ?_
 simp only [BX, Nat.zero_add]
 refine zg <| zs rfl <| zn <| BK <| GL (σ := Nat) [0, 1, 2] rfl 4 (fun k => .int .i64 ((63 * k : Nat) : Int)) (fun k => X :: AI bs 108 [.slice A n cap] :: AI bn 3 [.int .i64 63] :: L k) (fun k => k ≤ (n + 62) / 63) (fun k => (n + 62) / 63 - k) (0) (Nat.zero_le _) rfl BL ?_
 rintro k hj K1 hK1
 refine AG <| zg <| zm rfl <| zl rfl rfl <| zv BN <| ?_
 refine zv (B7 rfl rfl) <| zn <| BP rfl (fun h => ?_) (fun h => ?_)
 ·have hk : 63 * k < n := by omega
  have hm : (min 63 (n - 63 * k) : Nat) ≤ 63 := Nat.min_le_left _ _
  have hm1 : 63 * k + min 63 (n - 63 * k) ≤ n := by omega
  have hm2 : 0 < min 63 (n - 63 * k) := by omega
  obtain ⟨m, hmm⟩ : ∃ m, m = min 63 (n - 63 * k) := ⟨_, rfl⟩
  rw [← hmm] at hm hm1 hm2
  refine zk <| AG <| BK <| AG <| GM mixed AB <| ?_
  refine AM (zw rfl rfl) rfl <| AM (zw rfl rfl) rfl <| AM (AO rfl) rfl <| AM (FE rfl _ _ (.inr ⟨_, _, rfl, rfl⟩) (.inl ⟨rfl, rfl⟩) AA AA) rfl <| AM BN rfl <| ?_
  refine AM (XN (m := (m : Int)) rfl rfl (by split <;> omega)) rfl ?_
  refine AM (DH rfl) rfl <| EM <| zt <| ?_
  refine qV ?_
  refine ND <| L3 <| F5 (AO rfl) rfl rfl rfl <| F5 (zw rfl rfl) rfl rfl rfl <| F5 (AO rfl) rfl rfl rfl <| F5 (AO rfl) rfl rfl rfl <| ?_
  refine F5 (AO rfl) rfl rfl rfl <| F5 (BM rfl rfl BO) rfl rfl rfl <| ?_
  refine F5 (AO rfl) rfl rfl rfl <| F5 (AO rfl) rfl rfl rfl <| F5 (BM rfl rfl BO) rfl rfl rfl <| ?_
  refine F5 (l7 rfl (63 * k) (63 * k + m) (63 * k + m) rfl rfl rfl AA AA AA (R := RB A n k) (by unfold RB; rw [← hmm, if_neg AA, show 63 * k + m - 63 * k = m by omega, Nat.mul_one])) rfl rfl rfl ?_
  refine mM rfl rfl rfl (fun w1 H1 => hY k w1 AA H1) ?_
  refine F5 (P0 rfl) rfl rfl rfl <| L8 <| M7 <| iM rfl <| dD <| TA <| ?_
  refine X6 <| L3 <| F5 (AO rfl) rfl rfl rfl <| F5 (zw rfl rfl) rfl rfl rfl <| F5 (BM rfl rfl BO) rfl rfl rfl <| ?_
  refine F5 (DH rfl) rfl rfl rfl <| L8 <| ?_
  refine oH ?_
  refine B5 hK1 (k + 1) AA AA BD BL
 refine CF <| ze <| ze <| CE <| ?_
 exact M9 (.inl rfl) rfl fun w' H' => ⟨_, rfl, (show (n + 62) / 63 = k by omega) ▸ H'⟩
def iD (s : Nat × Nat) (c : UInt8) : Nat × Nat := ((s.1 + c.toNat) % 65521, (s.2 + (s.1 + c.toNat) % 65521) % 65521)
def KJ (s : Nat × Nat) (xs : List UInt8) : Nat × Nat := xs.foldl iD s
theorem UN (xs : List UInt8) : ∀ s : Nat × Nat, s.1 < 65521 → s.2 < 65521 → (KJ s xs).1 < 65521 ∧ (KJ s xs).2 < 65521 := by
 induction xs with
 | nil => intro s h1 h2; exact ⟨h1, h2⟩
 | cons x r ih => intro s h1 h2; exact ih _ (Nat.mod_lt _ AA) (Nat.mod_lt _ AA)
theorem T2 {α : Type} (xs : List α) (k : Nat) (h : k < xs.length) : xs.take (k + 1) = xs.take k ++ [xs[k]] := List.take_succ_eq_append_getElem h
theorem aN (s : Nat × Nat) (xs : List UInt8) (k : Nat) (h : k < xs.length) : KJ s (xs.take (k + 1)) = iD (KJ s (xs.take k)) xs[k] := by
 unfold KJ
 rw [T2 xs k h, List.foldl_append]
 rfl
theorem oX (g : Nat) (s : Nat × Nat) (h1 : s.1 < 65521) (h2 : s.2 < 65521) (v : Value) (xs : List UInt8) (H : AH D w w [AI g 278 [.int .u32 s.1, .int .u32 s.2]]) (HA : Old D w (AX.rep xs [v])) :
  Calls Tryz.prog 170 #[.pointer (some ⟨g, 0, none⟩), v] w fun e w' => e = .returned (.tuple #[]) ∧ AH D w w' [AI g 278 [.int .u32 (KJ s xs).1, .int .u32 (KJ s xs).2]] := by
 obtain ⟨A, cap, rfl, hc1, hc2, HS⟩ := HA.IG
 refine BZ (vs := [.pointer (some ⟨g, 0, none⟩), .slice A xs.length cap]) Tryz.func170 rfl _ Tryz.ntmps170 rfl H ?_
 simp only [BX, Nat.zero_add]
 repeat (first | refine AG ?_ | refine AR ?_ | refine zt ?_ | refine BK ?_ | refine C3 ?_ | refine zq ?_ | refine CF ?_ | refine zr ?_ | refine ze ?_ | refine zb ?_ | refine B4 ?_ | refine CE ?_ | refine FO rfl ?_ | refine AS ?_ | refine FG Z0 rfl rfl rfl ?_ | refine AV (B9) rfl rfl rfl (fun _ => ?_) | refine AV (BS rfl rfl rfl) rfl rfl rfl (fun _ => ?_) | refine A6 (DN rfl rfl rfl rfl rfl) rfl rfl ?_ | refine A6 (DT rfl rfl rfl rfl rfl rfl) rfl rfl ?_ | refine EN (on_mark rfl) rfl rfl rfl ?_ | refine AJ rfl rfl ?_ | refine F6 rfl rfl rfl rfl rfl rfl ?_)
 refine MV (σ := Nat) (fun k => [(8, .int .i64 k), (7, .int .i64 xs.length), (6, .slice A xs.length cap), (0, .pointer (some ⟨g, 0, none⟩))])
  (fun k => [AI g 278 [.int .u32 (KJ s (xs.take k)).1, .int .u32 (KJ s (xs.take k)).2]]) (fun k => k ≤ xs.length) (fun k => xs.length - k) 0 (Nat.zero_le _) BD (AD.refl _) ?_
 intro k hk K hK
 have hb := UN (xs.take k) s h1 h2
 generalize hs : KJ s (xs.take k) = q at hb
 repeat (first | refine AG ?_ | refine AR ?_ | refine zt ?_ | refine BK ?_ | refine C3 ?_ | refine zq ?_ | refine CF ?_ | refine zr ?_ | refine ze ?_ | refine zb ?_ | refine B4 ?_ | refine CE ?_ | refine FO rfl ?_ | refine AS ?_ | refine FG Z0 rfl rfl rfl ?_ | refine AV (B9) rfl rfl rfl (fun _ => ?_) | refine AV (BS rfl rfl rfl) rfl rfl rfl (fun _ => ?_) | refine A6 (DN rfl rfl rfl rfl rfl) rfl rfl ?_ | refine A6 (DT rfl rfl rfl rfl rfl rfl) rfl rfl ?_ | refine EN (on_mark rfl) rfl rfl rfl ?_ | refine AJ rfl rfl ?_ | refine F6 rfl rfl rfl rfl rfl rfl ?_)
 refine BP rfl (fun hlt => ?_) (fun hge => ?_)
 ·have hlt : k < xs.length := by omega
  have hA : CU A := HS.CU S6
  have hcell : EH D w [AI g 278 [.int .u32 q.1, .int .u32 q.2]] (ab A) (ao A + k * 1) (AU xs[k]) := by
   rw [Nat.mul_one]
   exact (BB.old HS).cell (by simp [hlt])
  have hx := xs[k].toNat_lt
  have hsn := aN s xs k hlt
  rw [hs] at hsn
  generalize xs[k] = x at *
  unfold AU at hcell
  repeat (first | refine AG ?_ | refine AR ?_ | refine zt ?_ | refine BK ?_ | refine C3 ?_ | refine zq ?_ | refine CF ?_ | refine zr ?_ | refine ze ?_ | refine zb ?_ | refine B4 ?_ | refine CE ?_ | refine FO rfl ?_ | refine AS ?_ | refine FG Z0 rfl rfl rfl ?_ | refine AV (B9) rfl rfl rfl (fun _ => ?_) | refine AV (BS rfl rfl rfl) rfl rfl rfl (fun _ => ?_) | refine A6 (DN rfl rfl rfl rfl rfl) rfl rfl ?_ | refine A6 (DT rfl rfl rfl rfl rfl rfl) rfl rfl ?_ | refine EN (on_mark rfl) rfl rfl rfl ?_ | refine AJ rfl rfl ?_ | refine F6 rfl rfl rfl rfl rfl rfl ?_)
  refine E2 13 mixed AB ?_
  repeat (first | refine EV ?_ | refine gN Z0 rfl rfl rfl ?_ | refine I6 rfl rfl ?_ | refine I5 rfl rfl rfl rfl rfl rfl ?_)
  repeat (first | refine AG ?_ | refine AR ?_ | refine zt ?_ | refine BK ?_ | refine C3 ?_ | refine zq ?_ | refine CF ?_ | refine zr ?_ | refine ze ?_ | refine zb ?_ | refine B4 ?_ | refine CE ?_ | refine FO rfl ?_ | refine AS ?_ | refine FG Z0 rfl rfl rfl ?_ | refine AV (B9) rfl rfl rfl (fun _ => ?_) | refine AV (BS rfl rfl rfl) rfl rfl rfl (fun _ => ?_) | refine A6 (DN rfl rfl rfl rfl rfl) rfl rfl ?_ | refine A6 (DT rfl rfl rfl rfl rfl rfl) rfl rfl ?_ | refine EN (on_mark rfl) rfl rfl rfl ?_ | refine AJ rfl rfl ?_ | refine F6 rfl rfl rfl rfl rfl rfl ?_)
  refine QV fun a w S => hK (k + 1) a w hlt AA ⟨S.env.sub BD, S.own.AK (AD.head ?_)⟩
  rw [hsn]
  exact fun h hh => hh
 ·have : k = xs.length := by omega
  subst this
  rw [List.take_length] at hs
  repeat (first | refine AG ?_ | refine AR ?_ | refine zt ?_ | refine BK ?_ | refine C3 ?_ | refine zq ?_ | refine CF ?_ | refine zr ?_ | refine ze ?_ | refine zb ?_ | refine B4 ?_ | refine CE ?_ | refine FO rfl ?_ | refine AS ?_ | refine FG Z0 rfl rfl rfl ?_ | refine AV (B9) rfl rfl rfl (fun _ => ?_) | refine AV (BS rfl rfl rfl) rfl rfl rfl (fun _ => ?_) | refine A6 (DN rfl rfl rfl rfl rfl) rfl rfl ?_ | refine A6 (DT rfl rfl rfl rfl rfl rfl) rfl rfl ?_ | refine EN (on_mark rfl) rfl rfl rfl ?_ | refine AJ rfl rfl ?_ | refine F6 rfl rfl rfl rfl rfl rfl ?_)
  refine M9 (.inl rfl) rfl fun w' H' => ⟨rfl, ?_⟩
  rw [hs]
  exact H'
def KO (s : Nat × Nat) : Nat := s.2 * 65536 + s.1
theorem sP (a b : Nat) (ha : a < 65536) (hb : b < 65536) : IntKind.u32.wrap (BitVec.ofInt 32 ((a : Int) * 65536) ||| BitVec.ofInt 32 (b : Int)).toNat = ((a * 65536 + b : Nat) : Int) := by
 have e1 : BitVec.ofInt 32 ((a : Int) * 65536) = BitVec.ofNat 32 (a * 65536) := by
  rw [show ((a : Int) * 65536) = ((a * 65536 : Nat) : Int) by omega]; rfl
 have e2 : BitVec.ofInt 32 (b : Int) = BitVec.ofNat 32 b := rfl
 rw [e1, e2, BitVec.toNat_or, BitVec.toNat_ofNat, BitVec.toNat_ofNat]
 rw [Nat.mod_eq_of_lt AA, Nat.mod_eq_of_lt AA]
 have := Nat.two_pow_add_eq_or_of_lt (i := 16) (b := b) AA a
 rw [show a * 65536 = 2 ^ 16 * a by omega, ← this]
 exact wrap_u32 AA
theorem o8 (g : Nat) (s : Nat × Nat) (h1 : s.1 < 65521) (h2 : s.2 < 65521) (H : AH D w w [AI g 278 [.int .u32 s.1, .int .u32 s.2]]) :
  Calls Tryz.prog 171 #[.pointer (some ⟨g, 0, none⟩)] w fun e w' => e = .returned (.int .u32 (KO s)) ∧ AH D w w' [AI g 278 [.int .u32 s.1, .int .u32 s.2]] := by
 refine BZ (vs := [.pointer (some ⟨g, 0, none⟩)]) Tryz.func171 rfl _ Tryz.ntmps171 rfl H ?_
 simp only [BX, Nat.zero_add]
 repeat (first | refine AG ?_ | refine AR ?_ | refine zt ?_ | refine BK ?_ | refine C3 ?_ | refine zq ?_ | refine CF ?_ | refine zr ?_ | refine ze ?_ | refine zb ?_ | refine B4 ?_ | refine CE ?_ | refine FO rfl ?_ | refine AS ?_ | refine FG Z0 rfl rfl rfl ?_ | refine AV (B9) rfl rfl rfl (fun _ => ?_) | refine AV (BS rfl rfl rfl) rfl rfl rfl (fun _ => ?_) | refine A6 (DN rfl rfl rfl rfl rfl) rfl rfl ?_ | refine A6 (DT rfl rfl rfl rfl rfl rfl) rfl rfl ?_ | refine EN (on_mark rfl) rfl rfl rfl ?_ | refine AJ rfl rfl ?_ | refine F6 rfl rfl rfl rfl rfl rfl ?_)
 refine GM mixed AB ?_
 repeat (first | refine EM ?_ | refine RA Z0 rfl rfl rfl ?_ | refine B6 rfl rfl ?_ | refine BG rfl rfl rfl rfl rfl rfl ?_)
 refine RA (PX (m := (s.2 : Int) * 65536) rfl rfl AF ?_) rfl rfl rfl ?_
 ·exact wrap_u32 (by show 0 ≤ (s.2 : Int) * 65536 ∧ (s.2 : Int) * 65536 ≤ 4294967295; omega)
 repeat (first | refine EM ?_ | refine RA Z0 rfl rfl rfl ?_ | refine B6 rfl rfl ?_ | refine BG rfl rfl rfl rfl rfl rfl ?_)
 refine RA (SZ (m := ((s.2 * 65536 + s.1 : Nat) : Int)) rfl rfl (sP s.2 s.1 AA AA)) rfl rfl rfl ?_
 repeat (first | refine EM ?_ | refine RA Z0 rfl rfl rfl ?_ | refine B6 rfl rfl ?_ | refine BG rfl rfl rfl rfl rfl rfl ?_)
 repeat (first | refine AG ?_ | refine AR ?_ | refine zt ?_ | refine BK ?_ | refine C3 ?_ | refine zq ?_ | refine CF ?_ | refine zr ?_ | refine ze ?_ | refine zb ?_ | refine B4 ?_ | refine CE ?_ | refine FO rfl ?_ | refine AS ?_ | refine FG Z0 rfl rfl rfl ?_ | refine AV (B9) rfl rfl rfl (fun _ => ?_) | refine AV (BS rfl rfl rfl) rfl rfl rfl (fun _ => ?_) | refine A6 (DN rfl rfl rfl rfl rfl) rfl rfl ?_ | refine A6 (DT rfl rfl rfl rfl rfl rfl) rfl rfl ?_ | refine EN (on_mark rfl) rfl rfl rfl ?_ | refine AJ rfl rfl ?_ | refine F6 rfl rfl rfl rfl rfl rfl ?_)
 exact zz rfl rfl fun w' H' => ⟨rfl, H'⟩

def MA (s : Nat × Nat) (xss : List (List UInt8)) : Nat × Nat := xss.foldl KJ s
theorem TU (xss : List (List UInt8)) : ∀ s : Nat × Nat, s.1 < 65521 → s.2 < 65521 → (MA s xss).1 < 65521 ∧ (MA s xss).2 < 65521 := by
 induction xss with
 | nil => intro s h1 h2; exact ⟨h1, h2⟩
 | cons x r ih => intro s h1 h2; exact ih _ (UN x s h1 h2).1 (UN x s h1 h2).2
theorem YZ (s : Nat × Nat) (xss : List (List UInt8)) (k : Nat) (h : k < xss.length) : MA s (xss.take (k + 1)) = KJ (MA s (xss.take k)) xss[k] := by
 unfold MA
 rw [T2 xss k h, List.foldl_append]
 rfl
def Sm (xss : List (List UInt8)) : Nat := KO (MA (1, 0) xss)
def Mr (n : Nat) (xs : List UInt8) : Nat := KO (KJ (n % 65536 % 65521, n / 65536 % 65521) xs)
theorem dI {s : Nat × Nat} (h1 : s.1 < 65521) (h2 : s.2 < 65521) : KO s < 4294967296 := by unfold KO; omega
theorem hH (xss : List (List UInt8)) : Sm xss < 4294967296 := dI (TU xss (1, 0) AF AF).1 (TU xss (1, 0) AF AF).2
theorem pV (v : Value) (xss : List (List UInt8)) (HA : Old D w (AX.rep xss [v])) :
  Calls Tryz.prog 159 #[v] w fun e w' => e = .returned (.int .u32 (Sm xss)) ∧ AH D w w' [] := by
 obtain ⟨A, cap, hs, rfl, hc1, hc2, HS, hl, _, hel⟩ := HA.open
 refine BZ (vs := [.slice A xss.length cap]) Tryz.func159 rfl _ Tryz.ntmps159 rfl (AH.start D w) ?_
 simp only [BX, Nat.zero_add]
 repeat (first | refine AG ?_ | refine AR ?_ | refine zt ?_ | refine BK ?_ | refine C3 ?_ | refine zq ?_ | refine CF ?_ | refine zr ?_ | refine ze ?_ | refine zb ?_ | refine B4 ?_ | refine CE ?_ | refine FO rfl ?_ | refine AS ?_ | refine FG Z0 rfl rfl rfl ?_ | refine AV (B9) rfl rfl rfl (fun _ => ?_) | refine AV (BS rfl rfl rfl) rfl rfl rfl (fun _ => ?_) | refine A6 (DN rfl rfl rfl rfl rfl) rfl rfl ?_ | refine A6 (DT rfl rfl rfl rfl rfl rfl) rfl rfl ?_ | refine EN (on_mark rfl) rfl rfl rfl ?_ | refine AJ rfl rfl ?_ | refine F6 rfl rfl rfl rfl rfl rfl ?_)
 rename_i g
 refine MV (σ := Nat) (fun k => [(9, .int .i64 k), (8, .int .i64 xss.length), (7, .slice A xss.length cap), (3, .pointer (some ⟨g, 0, none⟩))])
  (fun k => [AI g 278 [.int .u32 (MA (1, 0) (xss.take k)).1, .int .u32 (MA (1, 0) (xss.take k)).2]]) (fun k => k ≤ xss.length) (fun k => xss.length - k) 0 (Nat.zero_le _) BD (AD.refl _) ?_
 intro k hk K hK
 have hb := TU (xss.take k) (1, 0) AF AF
 generalize hq : MA (1, 0) (xss.take k) = q at hb
 repeat (first | refine AG ?_ | refine AR ?_ | refine zt ?_ | refine BK ?_ | refine C3 ?_ | refine zq ?_ | refine CF ?_ | refine zr ?_ | refine ze ?_ | refine zb ?_ | refine B4 ?_ | refine CE ?_ | refine FO rfl ?_ | refine AS ?_ | refine FG Z0 rfl rfl rfl ?_ | refine AV (B9) rfl rfl rfl (fun _ => ?_) | refine AV (BS rfl rfl rfl) rfl rfl rfl (fun _ => ?_) | refine A6 (DN rfl rfl rfl rfl rfl) rfl rfl ?_ | refine A6 (DT rfl rfl rfl rfl rfl rfl) rfl rfl ?_ | refine EN (on_mark rfl) rfl rfl rfl ?_ | refine AJ rfl rfl ?_ | refine F6 rfl rfl rfl rfl rfl rfl ?_)
 refine BP rfl (fun hlt => ?_) (fun hge => ?_)
 ·have hlt : k < xss.length := by omega
  have hlk : k < hs.length := by rw [hl]; show k < xss.length * 1; omega
  have hA : CU A := HS.CU (by intro h; simp [h] at hlk)
  have hu : Old D w (AX.rep xss[k] [hs[k]]) := by
   have := hel k _ (List.getElem?_eq_getElem hlt)
   have e1 : (hs.drop (k * 1)).take 1 = [hs[k]] := by rw [Nat.mul_one, List.drop_eq_getElem_cons hlk]; rfl
   rw [show AX.sz (List UInt8) = 1 from rfl, e1] at this
   exact this
  have hcell : EH D w [AI g 278 [.int .u32 q.1, .int .u32 q.2]] (ab A) (ao A + k * 1) hs[k] := by
   rw [Nat.mul_one]
   exact (BB.old HS).cell (by simp [hlk])
  have hsn := YZ (1, 0) xss k hlt
  rw [hq] at hsn
  generalize hs[k] = u at *
  generalize xss[k] = xs at *
  repeat (first | refine AG ?_ | refine AR ?_ | refine zt ?_ | refine BK ?_ | refine C3 ?_ | refine zq ?_ | refine CF ?_ | refine zr ?_ | refine ze ?_ | refine zb ?_ | refine B4 ?_ | refine CE ?_ | refine FO rfl ?_ | refine AS ?_ | refine FG Z0 rfl rfl rfl ?_ | refine AV (B9) rfl rfl rfl (fun _ => ?_) | refine AV (BS rfl rfl rfl) rfl rfl rfl (fun _ => ?_) | refine A6 (DN rfl rfl rfl rfl rfl) rfl rfl ?_ | refine A6 (DT rfl rfl rfl rfl rfl rfl) rfl rfl ?_ | refine EN (on_mark rfl) rfl rfl rfl ?_ | refine AJ rfl rfl ?_ | refine F6 rfl rfl rfl rfl rfl rfl ?_)
  refine B2 Tryz.call170 rfl rfl (fun w1 H1 => AH.call (pre := [AI g 278 [.int .u32 q.1, .int .u32 q.2]]) (l := []) H1 fun D' hold _ H2 => oX D' w1 g q hb.1 hb.2 u xs H2 (hold _ hu)) ?_
  repeat (first | refine AG ?_ | refine AR ?_ | refine zt ?_ | refine BK ?_ | refine C3 ?_ | refine zq ?_ | refine CF ?_ | refine zr ?_ | refine ze ?_ | refine zb ?_ | refine B4 ?_ | refine CE ?_ | refine FO rfl ?_ | refine AS ?_ | refine FG Z0 rfl rfl rfl ?_ | refine AV (B9) rfl rfl rfl (fun _ => ?_) | refine AV (BS rfl rfl rfl) rfl rfl rfl (fun _ => ?_) | refine A6 (DN rfl rfl rfl rfl rfl) rfl rfl ?_ | refine A6 (DT rfl rfl rfl rfl rfl rfl) rfl rfl ?_ | refine EN (on_mark rfl) rfl rfl rfl ?_ | refine AJ rfl rfl ?_ | refine F6 rfl rfl rfl rfl rfl rfl ?_)
  refine QV fun a w S => hK (k + 1) a w hlt AA ⟨S.env.sub BD, S.own.AK (AD.head ?_)⟩
  rw [hsn]
  exact fun h hh => hh
 ·have : k = xss.length := by omega
  subst this
  rw [List.take_length] at hq
  repeat (first | refine AG ?_ | refine AR ?_ | refine zt ?_ | refine BK ?_ | refine C3 ?_ | refine zq ?_ | refine CF ?_ | refine zr ?_ | refine ze ?_ | refine zb ?_ | refine B4 ?_ | refine CE ?_ | refine FO rfl ?_ | refine AS ?_ | refine FG Z0 rfl rfl rfl ?_ | refine AV (B9) rfl rfl rfl (fun _ => ?_) | refine AV (BS rfl rfl rfl) rfl rfl rfl (fun _ => ?_) | refine A6 (DN rfl rfl rfl rfl rfl) rfl rfl ?_ | refine A6 (DT rfl rfl rfl rfl rfl rfl) rfl rfl ?_ | refine EN (on_mark rfl) rfl rfl rfl ?_ | refine AJ rfl rfl ?_ | refine F6 rfl rfl rfl rfl rfl rfl ?_)
  refine B2 Tryz.call171 rfl rfl (fun w1 H1 => AH.call (pre := [AI g 278 [.int .u32 q.1, .int .u32 q.2]]) (l := []) H1 fun D' _ _ H2 => o8 D' w1 g q hb.1 hb.2 H2) ?_
  repeat (first | refine AG ?_ | refine AR ?_ | refine zt ?_ | refine BK ?_ | refine C3 ?_ | refine zq ?_ | refine CF ?_ | refine zr ?_ | refine ze ?_ | refine zb ?_ | refine B4 ?_ | refine CE ?_ | refine FO rfl ?_ | refine AS ?_ | refine FG Z0 rfl rfl rfl ?_ | refine AV (B9) rfl rfl rfl (fun _ => ?_) | refine AV (BS rfl rfl rfl) rfl rfl rfl (fun _ => ?_) | refine A6 (DN rfl rfl rfl rfl rfl) rfl rfl ?_ | refine A6 (DT rfl rfl rfl rfl rfl rfl) rfl rfl ?_ | refine EN (on_mark rfl) rfl rfl rfl ?_ | refine AJ rfl rfl ?_ | refine F6 rfl rfl rfl rfl rfl rfl ?_)
  refine zz rfl rfl fun w' H' => ⟨?_, H'.AK (AD.nil _)⟩
  unfold Sm
  rw [hq]
def DK (n : Nat) : List UInt8 := [UInt8.ofNat (n / 16777216), UInt8.ofNat (n / 65536), UInt8.ofNat (n / 256), UInt8.ofNat n]
theorem iS (n : Nat) : (DK n).length = 4 := rfl
theorem TS (m : Nat) : AU (UInt8.ofNat m) = .int .u8 ((m % 256 : Nat) : Int) := by simp [AU]
theorem Y4 (n : Nat) : (DK n).map AU = [.int .u8 ((n / 16777216 % 256 : Nat) : Int), .int .u8 ((n / 65536 % 256 : Nat) : Int), .int .u8 ((n / 256 % 256 : Nat) : Int), .int .u8 ((n % 256 : Nat) : Int)] := by
 simp only [DK, List.map_cons, List.map_nil, TS]
theorem NI (m : Nat) : IntKind.u8.wrap (m : Int) = ((m % 256 : Nat) : Int) := by
 show ((m : Int) % 2 ^ 8) = _
 omega
theorem OY (n k : Nat) : ((n : Int)).fdiv (2 ^ k) = ((n / 2 ^ k : Nat) : Int) := by
 rw [Int.fdiv_eq_ediv_of_nonneg _ (Int.le_of_lt (Int.pow_pos AF))]
 simp
theorem J6 (n : Nat) (hn : n < 4294967296) :
  Calls Tryz.prog 158 #[.int .u32 n] w fun e w' => ∃ b : Nat, e = .returned (.slice (some ⟨b, 0, none⟩) 4 4) ∧ AH D w w' [row (some ⟨b, 0, none⟩) 5 1 4 4 ((DK n).map AU)] := by
 rw [Y4]
 refine BZ (vs := [.int .u32 n]) Tryz.func158 rfl _ Tryz.ntmps158 rfl (AH.start D w) ?_
 simp only [BX, Nat.zero_add]
 refine zg <| zs rfl <| zn <| AG <| AR <| zm rfl <| AZ (JT (m := ((n / 16777216 : Nat) : Int)) rfl rfl AF (OY n 24)) rfl ?_
 refine AZ (CD (m := ((n / 16777216 % 256 : Nat) : Int)) rfl (NI _)) rfl <| zm rfl <| AZ (JT (m := ((n / 65536 : Nat) : Int)) rfl rfl AF (OY n 16)) rfl ?_
 refine AZ (CD (m := ((n / 65536 % 256 : Nat) : Int)) rfl (NI _)) rfl <| zm rfl <| AZ (JT (m := ((n / 256 : Nat) : Int)) rfl rfl AF (OY n 8)) rfl ?_
 refine AZ (CD (m := ((n / 256 % 256 : Nat) : Int)) rfl (NI _)) rfl <| zm rfl <| AZ (CD (m := ((n % 256 : Nat) : Int)) rfl (NI _)) rfl <| AV (BS rfl rfl rfl) rfl rfl rfl fun b14 =>
  zs rfl <| zn <| zq <| ?_
 exact zz rfl rfl fun w' H' => ⟨_, rfl, H'.AK (AD.FQ 1 4 rfl AF)⟩
def IB (xs : List UInt8) : Nat := xs.foldl (fun n c => n * 256 + c.toNat) 0
theorem WN (xs : List UInt8) (k : Nat) (h : k < xs.length) : IB (xs.take (k + 1)) = IB (xs.take k) * 256 + xs[k].toNat := by
 unfold IB
 rw [T2 xs k h, List.foldl_append]; rfl
theorem UO (xs : List UInt8) (k : Nat) (hk : k ≤ xs.length) : IB (xs.take k) < 256 ^ k := by
 induction k with
 | zero => simp [IB]
 | succ k ih =>
  rw [WN xs k AA]
  have := ih AA
  have hb := xs[k].toNat_lt
  rw [Nat.pow_succ]; omega
theorem qK (a b : Nat) (ha : a < 16777216) (hb : b < 256) : IntKind.u32.wrap (BitVec.ofInt 32 (((a * 256 : Nat) : Int)) ||| BitVec.ofInt 32 (b : Int)).toNat = ((a * 256 + b : Nat) : Int) := by
 have e1 : BitVec.ofInt 32 ((a * 256 : Nat) : Int) = BitVec.ofNat 32 (a * 256) := rfl
 have e2 : BitVec.ofInt 32 (b : Int) = BitVec.ofNat 32 b := rfl
 rw [e1, e2, BitVec.toNat_or, BitVec.toNat_ofNat, BitVec.toNat_ofNat]
 rw [Nat.mod_eq_of_lt AA, Nat.mod_eq_of_lt AA]
 have := Nat.two_pow_add_eq_or_of_lt (i := 8) (b := b) AA a
 rw [show a * 256 = 2 ^ 8 * a by omega, ← this]
 exact wrap_u32 AA
theorem jM (v : Value) (xs : List UInt8) (hl : xs.length ≤ 4) (HA : Old D w (AX.rep xs [v])) :
  Calls Tryz.prog 123 #[v] w fun e w' => e = .returned (.int .u32 (IB xs)) ∧ AH D w w' [] := by
 obtain ⟨A, cap, rfl, hc1, hc2, HS⟩ := HA.IG
 refine BZ (vs := [.slice A xs.length cap]) Tryz.func123 rfl _ Tryz.ntmps123 rfl (AH.start D w) ?_
 simp only [BX, Nat.zero_add]
 refine zg <| zs rfl <| zn <| AG <| AR <| zs rfl <| zn <| AG <| AG <| AR <| zm rfl <| zv BN <| ?_
 refine zm rfl <| zn <| BK <| PI (σ := Nat) [6, 7] rfl 8 (fun k => .int .i64 (k : Int)) 3 (fun k => .int .u32 ((IB (xs.take k) : Nat) : Int)) (fun k => k ≤ xs.length) (fun k => xs.length - k) (0) (Nat.zero_le _) rfl rfl ?_
 rintro k hj K1 hK1
 refine zg <| zv (B7 rfl rfl) <| zn <| AG <| BP rfl (fun h => ?_) (fun h => ?_)
 ·have hlt : k < xs.length := by omega
  have hA : CU A := HS.CU S6
  have hcell : EH D w [] (ab A) (ao A + k * 1) (AU xs[k]) := by
   rw [Nat.mul_one]
   exact (BB.old HS).cell (by simp [hlt])
  have hx := xs[k].toNat_lt
  have hsn := WN xs k hlt
  have hb := UO xs k hj
  have hb3 : IB (xs.take k) < 16777216 := Nat.lt_of_lt_of_le hb (by have : 256 ^ k ≤ 256 ^ 3 := Nat.pow_le_pow_right AF AA; exact this)
  obtain ⟨m, hm⟩ : ∃ m, m = IB (xs.take k) := ⟨_, rfl⟩
  rw [← hm] at hsn hb3
  unfold AU at hcell
  refine zk <| AG <| BK <| zg <| zv (CZ rfl DP rfl _ rfl AA) <| zv Z9 <| ?_
  refine zs rfl <| zn <| AR <| zm rfl <| AZ (PX (m := ((m * 256 : Nat) : Int)) rfl rfl AF (by rw [← hm]; show IntKind.u32.wrap ((m : Int) * 256) = _; rw [show (m : Int) * 256 = ((m * 256 : Nat) : Int) by omega]; exact wrap_u32 AA)) rfl ?_
  refine zm rfl <| zv (CD rfl NP) <| ?_
  refine AZ (SZ (m := ((IB (xs.take (k + 1)) : Nat) : Int)) rfl rfl (by rw [hsn]; exact qK m _ hb3 hx)) rfl ?_
  refine zs rfl <| AS <| zb <| zt <| AR <| zv (BM rfl rfl BO) <| ?_
  refine zm rfl <| AS <| B5 hK1 (k + 1) AA AA BD BL
 have : k = xs.length := by omega
 subst this
 refine CF <| ze <| ze <| CE <| zt <| AG <| AR <| zm rfl <| zs rfl <| zn <| zq <| ?_
 exact zz rfl rfl fun w' H' => ⟨by rw [List.take_length], H'⟩
def JX (n : Int) : Int := if n < 0 ∨ 4000 < n then 0 else (n + 77) / 63
theorem nH (n : Int) :
  Calls Tryz.prog 97 #[.int .i64 n] w fun e w' => e = .returned (.int .i64 (JX n)) ∧ AH D w w' [] := by
 refine BZ (vs := [.int .i64 n]) Tryz.func97 rfl _ Tryz.ntmps97 rfl (AH.start D w) ?_
 simp only [BX, Nat.zero_add]
 refine zg <| zs rfl <| zn <| AG <| zg <| zm rfl <| zv (B7 rfl rfl) <| zm rfl <| DB (t := 5) rfl (fun h0 => ?_) (fun h0 => ?_)
 ·skip
  have : JX n = 0 := by unfold JX; rw [if_pos (.inl h0)]
  rw [this]
  refine zo rfl rfl <| zo rfl rfl <| zv (BF rfl rfl) <| zn <| DD rfl <| zg <| zs rfl <| zn <| zq <| zr <| ?_
  exact zz rfl rfl fun w' H' => ⟨rfl, H'⟩
 refine AJ rfl rfl <| zm rfl <| AJ rfl rfl <| zv (DV rfl rfl) <| zv (A8 rfl rfl) <| zn <| ?_
 by_cases h1 : 4000 < n
 ·have : JX n = 0 := by unfold JX; rw [if_pos (.inr h1)]
  rw [this]
  refine GR rfl AA ?_
  refine zg <| zs rfl <| zn <| zq <| zr <| ?_
  exact zz rfl rfl fun w' H' => ⟨rfl, H'⟩
 have : JX n = (n + 77) / 63 := by unfold JX; rw [if_neg AA]
 rw [this]
 refine CP rfl AA ?_
 refine zk <| zg <| zm rfl <| zv (BM rfl rfl BO) <| ?_
 refine zv (BM rfl rfl BO) <| ?_
 refine zv (BM rfl rfl BO) <| ?_
 refine zv (FY rfl rfl BO) <| ?_
 refine AZ (XS (m := (n + 77) / 63) rfl rfl AF (by rw [Int.tdiv_eq_ediv_of_nonneg AA]; rw [show 11 + n + 4 + 63 - 1 = n + 77 by omega]; exact wrap_i64 AA)) rfl ?_
 refine zs rfl <| zn <| zq <| ?_
 exact zz rfl rfl fun w' H' => ⟨rfl, H'⟩
theorem bA (c : Prop) [Decidable c] (A : Option Addr) (s : Nat) : (if c then A else A.map (·.add (0 * s))) = A := by
 split
 ·rfl
 cases A with
 | none => rfl
 | some a => simp [Addr.add]
theorem oR (n : Nat) (h0 : 0 < n) (h1 : n ≤ 1000000) :
  Calls Tryz.prog 138 #[.slice none 0 0, .int .i64 n] w fun e w' => ∃ q : Option Addr × Nat, e = .returned (.slice q.1 0 q.2) ∧ AH D w w' [row q.1 5 1 0 q.2 []] := by
 refine BZ (vs := [.slice none 0 0, .int .i64 n]) Tryz.func138 rfl _ Tryz.ntmps138 rfl (AH.start D w) ?_
 simp only [BX, Nat.zero_add]
 refine zg <| zs rfl <| zn <| AG <| zg <| zm rfl <| zv (B7 rfl rfl) <| zn <| CP rfl AA ?_
 refine zk <| AG <| zg <| zm rfl <| zm rfl <| zv (N4 rfl) <| zm rfl <| zv BN <| ?_
 refine zv (FY rfl rfl BO) <| ?_
 refine zv (FY rfl rfl BO) <| ?_
 refine zs rfl <| zn <| zg <| zm rfl <| zv (DV rfl rfl) <| zn <| GR rfl AA ?_
 refine AR <| zm rfl <| zm rfl <| zv (N4 rfl) <| zv (FE rfl _ _ (.inl ⟨rfl, rfl⟩) (.inr ⟨_, _, rfl, rfl⟩) AA AA) <| zm rfl <| ?_
 refine AV (j7 (m := n) rfl rfl AA h0 AF AF AA) rfl rfl rfl (fun q => ?_)
 refine zm rfl <| zv BN <| ?_
 refine zv (FE rfl _ _ (.inl ⟨rfl, rfl⟩) (.inr ⟨_, _, rfl, rfl⟩) AA AA) <| zs rfl <| zn <| zg <| ?_
 refine zm rfl <| zs rfl <| zn <| zq <| ?_
 exact zz rfl rfl fun w' H' => ⟨q, by rw [bA]; rfl, H'.AK AD.pQ⟩
theorem nY (n : Nat) (h1 : n ≤ 1000000) :
  Calls Tryz.prog 138 #[.slice none 0 0, .int .i64 n] w fun e w' => ∃ q : Option Addr × Nat, e = .returned (.slice q.1 0 q.2) ∧ AH D w w' [row q.1 5 1 0 q.2 []] := by
 rcases Nat.eq_zero_or_pos n with rfl | h0
 ·have _h := h1
  refine BZ (vs := [.slice none 0 0, .int .i64 ((0 : Nat) : Int)]) Tryz.func138 rfl _ Tryz.ntmps138 rfl (AH.start D w) ?_
  simp only [BX, Nat.zero_add]
  refine zg <| zs rfl <| zn <| AG <| zg <| zm rfl <| zv (B7 rfl rfl) <| zn <| CP rfl AA ?_
  refine zk <| AG <| zg <| zm rfl <| zm rfl <| zv (N4 rfl) <| zm rfl <| zv BN <| ?_
  refine zv (FY rfl rfl BO) <| ?_
  refine zv (FY rfl rfl BO) <| ?_
  refine zs rfl <| zn <| zg <| zm rfl <| zv (DV rfl rfl) <| zn <| CP rfl AA ?_
  refine zk <| zg <| zm rfl <| zs rfl <| zn <| zq <| ?_
  exact zz rfl rfl fun w' H' => ⟨(none, 0), rfl, H'.AK (AD.EB _ _)⟩
 exact oR D w n h0 h1
theorem m6 (xss : List (List UInt8)) (k : Nat) (h : k < xss.length) : (xss.take (k + 1)).flatten = (xss.take k).flatten ++ xss[k] := by
 rw [T2 xss k h, List.flatten_append]; simp
theorem UQ (xss : List (List UInt8)) (k : Nat) : (xss.take k).flatten.length ≤ xss.flatten.length := by
 have : xss.flatten = (xss.take k).flatten ++ (xss.drop k).flatten := by rw [← List.flatten_append, List.take_append_drop]
 rw [this, List.length_append]; omega
theorem LM (v : Value) (xss : List (List UInt8)) (h1 : xss.flatten.length ≤ 1000000) (HA : Old D w (AX.rep xss [v])) :
  Calls Tryz.prog 96 #[v] w fun e w' => ∃ q : Option Addr × Nat, e = .returned (.slice q.1 xss.flatten.length q.2) ∧ AH D w w' [row q.1 5 1 xss.flatten.length q.2 (xss.flatten.map AU)] := by
 obtain ⟨A, cap, hs, rfl, hc1, hc2, HS, hl, _, hel⟩ := HA.open
 have hat : ∀ k, k < xss.length → ∀ l, ∃ B cb, EH D w l (ab A) (ao A + k * 1) (.slice B (xss[k]!).length cb) ∧ CU A ∧ BB D w l B ((xss[k]!).map AU) ∧ xss[k]! = xss[k]! := fun k hlt l => by
  have hlk : k < hs.length := by rw [hl]; show k < xss.length * 1; omega
  have hA : CU A := HS.CU (by intro h; simp [h] at hlk)
  have hu : Old D w (AX.rep xss[k] [hs[k]]) := by
   have := hel k _ (List.getElem?_eq_getElem hlt)
   have e1 : (hs.drop (k * 1)).take 1 = [hs[k]] := by rw [Nat.mul_one, List.drop_eq_getElem_cons hlk]; rfl
   rw [show AX.sz (List UInt8) = 1 from rfl, e1] at this
   exact this
  have hcell : EH D w l (ab A) (ao A + k * 1) hs[k] := by
   rw [Nat.mul_one]
   exact (BB.old HS).cell (by simp [hlk])
  have hg : xss[k]! = xss[k] := getElem!_pos xss k hlt
  obtain ⟨B, cb, he, _, _, hB⟩ := hu.IG
  rw [he] at hcell
  rw [hg]
  exact ⟨B, cb, hcell, hA, BB.old hB, rfl⟩
 have hsn : ∀ k, k < xss.length → (xss.take (k + 1)).flatten = (xss.take k).flatten ++ xss[k]! := fun k hk => by rw [getElem!_pos xss k hk]; exact m6 xss k hk
 refine BZ (vs := [.slice A xss.length cap]) Tryz.func96 rfl _ Tryz.ntmps96 rfl (AH.start D w) ?_
 simp only [BX, Nat.zero_add]
 refine zg <| zs rfl <| zn <| AG <| AR <| zs rfl <| zn <| AG <| AG <| AR <| zm rfl <| zv BN <| ?_
 refine zm rfl <| zn <| BK <| PI (σ := Nat) [0, 9, 10] rfl 11 (fun k => .int .i64 (k : Int)) 3 (fun k => .int .i64 (((xss.take k).flatten.length : Nat) : Int)) (fun k => k ≤ xss.length) (fun k => xss.length - k) (0) (Nat.zero_le _) rfl rfl ?_
 rintro k hj K1 hK1
 have hle := UQ xss k
 refine zg <| zv (B7 rfl rfl) <| zn <| AG <| BP rfl (fun h => ?_) (fun h => ?_)
 ·have hlt : k < xss.length := by omega
  obtain ⟨B, cb, hcell, hA, _, _⟩ := hat k hlt []
  have hk1 := hsn k hlt
  have hle1 := UQ xss (k + 1)
  have hlen := congrArg List.length hk1
  rw [List.length_append] at hlen
  generalize xss[k]! = xs at *
  refine zk <| AG <| BK <| zg <| zv (CZ rfl DP rfl _ rfl AA) <| zv Z9 <| ?_
  refine zs rfl <| zn <| zg <| zm rfl <| zm rfl <| zv BN <| ?_
  refine AZ (BM (m := (((xss.take (k + 1)).flatten.length : Nat) : Int)) rfl rfl E3) rfl ?_
  refine zs rfl <| zn <| zg <| zm rfl <| zv (B7 rfl rfl) <| zn <| CP rfl AA ?_
  refine C3 <| zb <| zt <| AR <| zv (BM rfl rfl BO) <| ?_
  refine zm rfl <| AS <| B5 hK1 (k + 1) AA AA BD BL
 have hk : k = xss.length := by omega
 subst hk
 rw [List.take_length]
 refine CF <| ze <| ze <| CE <| zt <| AG <| AR <| zm rfl <| CQ (σ := Option Addr × Nat) Tryz.call138 rfl rfl (fun w1 => zu fun D' _ _ _ => nY D' w1 xss.flatten.length h1) ?_
 intro q
 try rw [List.nil_append]
 refine zs rfl <| zn <| AG <| zg <| zm rfl <| zv BN <| ?_
 refine zm rfl <| zn <| BK <| JA (σ := Nat × Nat × List Value × Option Addr × Nat) [25, 26] rfl 27 (fun s => .int .i64 (s.1 : Int)) 6 (fun s => .slice s.2.2.2.1 s.2.1 s.2.2.2.2) (fun s => [row s.2.2.2.1 5 1 s.2.1 s.2.2.2.2 s.2.2.1]) (fun s => s.1 ≤ xss.length ∧ s.2.1 = (xss.take s.1).flatten.length ∧ s.2.2.1 = (xss.take s.1).flatten.map AU) (fun s => xss.length - s.1) ((0, 0, [], q)) (⟨Nat.zero_le _, rfl, rfl⟩) rfl rfl BL ?_
 rintro ⟨k, n, cs, A2, c2⟩ hj_ K2 hK2
 dsimp only at hj_ ⊢
 obtain ⟨hk, hn, hcs⟩ := hj_
 have hle := UQ xss k
 refine zg <| zv (B7 rfl rfl) <| zn <| AG <| BP rfl (fun h => ?_) (fun h => ?_)
 ·have hlt : k < xss.length := by omega
  obtain ⟨B, cb, hcell, hA, hsrc, _⟩ := hat k hlt [row A2 5 1 n c2 cs]
  have hk1 := hsn k hlt
  have hle1 := UQ xss (k + 1)
  have hlen := congrArg List.length hk1
  rw [List.length_append] at hlen
  generalize xss[k]! = xs at *
  refine zk <| AG <| BK <| zg <| zv (CZ rfl DP rfl _ rfl AA) <| zv Z9 <| ?_
  refine zs rfl <| zn <| AR <| zm rfl <| zm rfl <| AV (BT (news := xs.map AU) rfl rfl hsrc (by simp) (EL xs) AF AA) rfl rfl rfl (fun q2 => ?_)
  refine zs rfl <| AS <| zb <| zt <| AR <| zv (BM rfl rfl BO) <| ?_
  refine zm rfl <| AS <| ?_
  have hn' : n + xs.length = (xss.take (k + 1)).flatten.length := by omega
  have hcs' : cs ++ xs.map AU = (xss.take (k + 1)).flatten.map AU := by rw [hcs, hk1, List.map_append]
  have hk2 : k + 1 ≤ xss.length := hlt
  have hk3 : xss.length - (k + 1) < xss.length - k := by omega
  refine B5 hK2 ((k + 1, n + xs.length, cs ++ xs.map AU, q2)) (⟨hk2, hn', hcs'⟩) (hk3) BD BL
 have hk' : k = xss.length := by omega
 subst hk'
 rw [List.take_length] at hn hcs
 subst hn; subst hcs
 refine CF <| ze <| ze <| CE <| zt <| AG <| AR <| zm rfl <| zs rfl <| zn <| zq <| ?_
 exact zz rfl rfl fun w' H' => ⟨(A2, c2), rfl, H'⟩
theorem kJ (A : Option Addr) (n cap : Nat) :
  Calls Tryz.prog 139 #[.slice A n cap, .int .i64 63] w fun e w' => ∃ q : Nat × Nat, e = .returned (.func (.func 157) #[] #[.pointer (some ⟨q.1, 0, none⟩), .pointer (some ⟨q.2, 0, none⟩)]) ∧ AH D w w' [AI q.1 108 [.slice A n cap], AI q.2 3 [.int .i64 63]] := by
 refine BZ (vs := [.slice A n cap, .int .i64 63]) Tryz.func139 rfl _ Tryz.ntmps139 rfl (AH.start D w) ?_
 simp only [BX, Nat.zero_add]
 refine zg <| AV (EE rfl rfl) rfl rfl rfl fun b2 =>  ?_
 refine AV (EE rfl rfl) rfl rfl rfl fun b3 =>  ?_
 refine zs rfl <| zn <| AG <| zg <| zl rfl rfl <| zv (B7 rfl rfl) <| zn <| CP rfl AF ?_
 refine zk <| zg <| zv (XB rfl rfl) <| zs rfl <| ?_
 refine zn <| zq <| ?_
 exact zz rfl rfl fun w' H' => ⟨(b2, b3), rfl, H'.AK Z8⟩
def G3 (k : Nat) (a b : Nat) (xs : List UInt8) : List (List UInt8) := [[UInt8.ofNat k], DK a, DK b, [UInt8.ofNat (xs.length / 256), UInt8.ofNat xs.length], xs]
abbrev preB (k a b : Nat) (xs : List UInt8) : List UInt8 := (G3 k a b xs).flatten
def HN (k a b : Nat) (xs : List UInt8) : List UInt8 := preB k a b xs ++ DK (Sm [preB k a b xs])
theorem RY (k a b : Nat) (xs : List UInt8) : (preB k a b xs).length = 11 + xs.length := by
 simp [preB, G3, DK]; omega
theorem LY (k a b : Nat) (xs : List UInt8) : (HN k a b xs).length = 15 + xs.length := by
 rw [HN, List.length_append, RY, iS]; omega
theorem UF (m : Nat) (h : m < 256) : Value.int .u8 (m : Int) = AU (UInt8.ofNat m) := by
 rw [TS, Nat.mod_eq_of_lt h]
theorem lO (k a b : Nat) (v : Value) (xs : List UInt8) (hk : k < 256) (ha : a < 4294967296) (hb : b < 4294967296) (hx : xs.length ≤ 4000) (HA : Old D w (AX.rep xs [v])) :
  Calls Tryz.prog 140 #[.agg #[.int .i64 k, .int .u32 a, .int .u32 b, v]] w fun e w' => ∃ q : Option Addr × Nat, e = .returned (.slice q.1 (15 + xs.length) q.2) ∧ AH D w w' [row q.1 5 1 (15 + xs.length) q.2 ((HN k a b xs).map AU)] := by
 obtain ⟨A, cap, rfl, hc1, hc2, HS⟩ := HA.IG
 have hk8 : [Value.int .u8 (k : Int)] = [UInt8.ofNat k].map AU := by rw [UF k hk]; rfl
 have hl8 : [Value.int .u8 ((xs.length / 256 : Nat) : Int), Value.int .u8 ((xs.length % 256 : Nat) : Int)] = [UInt8.ofNat (xs.length / 256), UInt8.ofNat xs.length].map AU := by
  rw [UF (xs.length / 256) AA, ← TS]; rfl
 refine BZ (vs := [.agg #[.int .i64 k, .int .u32 a, .int .u32 b, .slice A xs.length cap]]) Tryz.func140 rfl _ Tryz.ntmps140 rfl (AH.start D w) ?_
 simp only [BX, Nat.zero_add]
 refine zg <| AV (EE rfl rfl) rfl rfl rfl fun b1 =>  ?_
 refine zs rfl <| zn <| AG <| NX (σ := Option Addr × Nat) [] rfl 3 (fun q => .slice q.1 (preB k a b xs).length q.2) (fun q => [row q.1 5 1 (preB k a b xs).length q.2 ((preB k a b xs).map AU)]) (fun K1 hK1 => ?_) (fun q => ?_)
 ·refine EF [AI b1 246 [.int .i64 k, .int .u32 a, .int .u32 b, .slice A xs.length cap]] mixed 28 rfl ?_
  refine AE 0 rfl (AP rfl) rfl <| AE 1 rfl (AP rfl) rfl <| AE 2 rfl (zw rfl rfl) rfl <| AE 3 rfl (CD rfl IC) rfl <| ?_
  refine AE 5 rfl (AP rfl) rfl <| AE 6 rfl (AP rfl) rfl <| AE 7 rfl (zw rfl rfl) rfl <| AE 9 rfl (AP rfl) rfl <| AE 10 rfl (AP rfl) rfl <| AE 11 rfl (zw rfl rfl) rfl <| AE 13 rfl (AP rfl) rfl <| AE 14 rfl (zw rfl rfl) rfl <| AE 15 rfl BN rfl <| ?_
  refine AE 16 rfl (JT (m := ((xs.length / 256 : Nat) : Int)) rfl rfl AF (OY _ 8)) rfl ?_
  refine AE 17 rfl (CD rfl IC) rfl <| ?_
  refine AE 18 rfl (AP rfl) rfl <| AE 19 rfl (zw rfl rfl) rfl <| AE 20 rfl BN rfl <| ?_
  refine AE 23 rfl (AP rfl) rfl <| AE 24 rfl (zw rfl rfl) rfl <| AE 21 rfl (CD (m := ((xs.length % 256 : Nat) : Int)) rfl (NI _)) rfl <| PM 4 8 22 AB ?_ ?_ ?_
  ·skip
   refine BC rfl (BS rfl rfl rfl) rfl (fun b8 => ?_)
   refine DE 8 22 AB ?_ ?_
   ·skip
    refine CR (σ := Nat) rfl Tryz.call158 rfl (fun w1 => zu fun D' _ _ _ => J6 D' w1 a ha) ?_
    intro q12
    try rw [List.nil_append]
    refine DE 12 22 AB ?_ ?_
    ·skip
     refine CR (σ := Nat) rfl Tryz.call158 rfl (fun w1 => zu fun D' _ _ _ => J6 D' w1 b hb) ?_
     intro q16
     try rw [List.nil_append]
     refine AL 22 AB <| BC rfl (BS rfl rfl rfl) rfl (fun b26 => ?_)
     refine AL 25 AB <| BC rfl (BS rfl rfl rfl) rfl (fun b29 => ?_)
     refine AL 26 AB <| CR (σ := Option Addr × Nat) rfl Tryz.call96 rfl (fun w1 => zu fun D' _ hin _ => LM D' w1 _ (G3 k a b xs) MP (hin _ fun h hs ho => I2 (b := b29) hs (G3 k a b xs) ⟨[_], [_, _, _, _], rfl, IE (b := b8) hs [UInt8.ofNat k] hk8 (by simp), [_], [_, _, _], rfl, C7 (A := some ⟨q12, 0, none⟩) hs (DK a) rfl (DQ.2 rfl), [_], [_, _], rfl, C7 (A := some ⟨q16, 0, none⟩) hs (DK b) rfl (DQ.2 rfl), [_], [_], rfl, IE (b := b26) hs [UInt8.ofNat (xs.length / 256), UInt8.ofNat xs.length] hl8 (by simp), [_], [], rfl, L7 ho HA, rfl⟩ MO)) ?_
     intro q30
     try rw [List.nil_append]
     refine AE 27 rfl (DH rfl) rfl <| BY AB <| ?_
     refine DF hK1 (q30) BD BL
    skip
    refine BC rfl (BS rfl rfl rfl) rfl (fun b26 => ?_)
    refine AL 12 AB <| CR (σ := Nat) rfl Tryz.call158 rfl (fun w1 => zu fun D' _ _ _ => J6 D' w1 b hb) ?_
    intro q16
    try rw [List.nil_append]
    refine AL 25 AB <| BC rfl (BS rfl rfl rfl) rfl (fun b29 => ?_)
    refine AL 26 AB <| CR (σ := Option Addr × Nat) rfl Tryz.call96 rfl (fun w1 => zu fun D' _ hin _ => LM D' w1 _ (G3 k a b xs) MP (hin _ fun h hs ho => I2 (b := b29) hs (G3 k a b xs) ⟨[_], [_, _, _, _], rfl, IE (b := b8) hs [UInt8.ofNat k] hk8 (by simp), [_], [_, _, _], rfl, C7 (A := some ⟨q12, 0, none⟩) hs (DK a) rfl (DQ.2 rfl), [_], [_, _], rfl, C7 (A := some ⟨q16, 0, none⟩) hs (DK b) rfl (DQ.2 rfl), [_], [_], rfl, IE (b := b26) hs [UInt8.ofNat (xs.length / 256), UInt8.ofNat xs.length] hl8 (by simp), [_], [], rfl, L7 ho HA, rfl⟩ MO)) ?_
    intro q30
    try rw [List.nil_append]
    refine AE 27 rfl (DH rfl) rfl <| BY AB <| ?_
    refine DF hK1 (q30) BD BL
   skip
   refine BC rfl (BS rfl rfl rfl) rfl (fun b26 => ?_)
   refine AL 8 AB <| CR (σ := Nat) rfl Tryz.call158 rfl (fun w1 => zu fun D' _ _ _ => J6 D' w1 a ha) ?_
   intro q12
   try rw [List.nil_append]
   refine AL 12 AB <| CR (σ := Nat) rfl Tryz.call158 rfl (fun w1 => zu fun D' _ _ _ => J6 D' w1 b hb) ?_
   intro q16
   try rw [List.nil_append]
   refine AL 25 AB <| BC rfl (BS rfl rfl rfl) rfl (fun b29 => ?_)
   refine AL 26 AB <| CR (σ := Option Addr × Nat) rfl Tryz.call96 rfl (fun w1 => zu fun D' _ hin _ => LM D' w1 _ (G3 k a b xs) MP (hin _ fun h hs ho => I2 (b := b29) hs (G3 k a b xs) ⟨[_], [_, _, _, _], rfl, IE (b := b8) hs [UInt8.ofNat k] hk8 (by simp), [_], [_, _, _], rfl, C7 (A := some ⟨q12, 0, none⟩) hs (DK a) rfl (DQ.2 rfl), [_], [_, _], rfl, C7 (A := some ⟨q16, 0, none⟩) hs (DK b) rfl (DQ.2 rfl), [_], [_], rfl, IE (b := b26) hs [UInt8.ofNat (xs.length / 256), UInt8.ofNat xs.length] hl8 (by simp), [_], [], rfl, L7 ho HA, rfl⟩ MO)) ?_
   intro q30
   try rw [List.nil_append]
   refine AE 27 rfl (DH rfl) rfl <| BY AB <| ?_
   refine DF hK1 (q30) BD BL
  ·skip
   refine CR (σ := Nat) rfl Tryz.call158 rfl (fun w1 => zu fun D' _ _ _ => J6 D' w1 a ha) ?_
   intro q12
   try rw [List.nil_append]
   refine PM 4 12 22 AB ?_ ?_ ?_
   ·skip
    refine BC rfl (BS rfl rfl rfl) rfl (fun b8 => ?_)
    refine DE 12 22 AB ?_ ?_
    ·skip
     refine CR (σ := Nat) rfl Tryz.call158 rfl (fun w1 => zu fun D' _ _ _ => J6 D' w1 b hb) ?_
     intro q16
     try rw [List.nil_append]
     refine AL 22 AB <| BC rfl (BS rfl rfl rfl) rfl (fun b26 => ?_)
     refine AL 25 AB <| BC rfl (BS rfl rfl rfl) rfl (fun b29 => ?_)
     refine AL 26 AB <| CR (σ := Option Addr × Nat) rfl Tryz.call96 rfl (fun w1 => zu fun D' _ hin _ => LM D' w1 _ (G3 k a b xs) MP (hin _ fun h hs ho => I2 (b := b29) hs (G3 k a b xs) ⟨[_], [_, _, _, _], rfl, IE (b := b8) hs [UInt8.ofNat k] hk8 (by simp), [_], [_, _, _], rfl, C7 (A := some ⟨q12, 0, none⟩) hs (DK a) rfl (DQ.2 rfl), [_], [_, _], rfl, C7 (A := some ⟨q16, 0, none⟩) hs (DK b) rfl (DQ.2 rfl), [_], [_], rfl, IE (b := b26) hs [UInt8.ofNat (xs.length / 256), UInt8.ofNat xs.length] hl8 (by simp), [_], [], rfl, L7 ho HA, rfl⟩ MO)) ?_
     intro q30
     try rw [List.nil_append]
     refine AE 27 rfl (DH rfl) rfl <| BY AB <| ?_
     refine DF hK1 (q30) BD BL
    skip
    refine BC rfl (BS rfl rfl rfl) rfl (fun b26 => ?_)
    refine AL 12 AB <| CR (σ := Nat) rfl Tryz.call158 rfl (fun w1 => zu fun D' _ _ _ => J6 D' w1 b hb) ?_
    intro q16
    try rw [List.nil_append]
    refine AL 25 AB <| BC rfl (BS rfl rfl rfl) rfl (fun b29 => ?_)
    refine AL 26 AB <| CR (σ := Option Addr × Nat) rfl Tryz.call96 rfl (fun w1 => zu fun D' _ hin _ => LM D' w1 _ (G3 k a b xs) MP (hin _ fun h hs ho => I2 (b := b29) hs (G3 k a b xs) ⟨[_], [_, _, _, _], rfl, IE (b := b8) hs [UInt8.ofNat k] hk8 (by simp), [_], [_, _, _], rfl, C7 (A := some ⟨q12, 0, none⟩) hs (DK a) rfl (DQ.2 rfl), [_], [_, _], rfl, C7 (A := some ⟨q16, 0, none⟩) hs (DK b) rfl (DQ.2 rfl), [_], [_], rfl, IE (b := b26) hs [UInt8.ofNat (xs.length / 256), UInt8.ofNat xs.length] hl8 (by simp), [_], [], rfl, L7 ho HA, rfl⟩ MO)) ?_
    intro q30
    try rw [List.nil_append]
    refine AE 27 rfl (DH rfl) rfl <| BY AB <| ?_
    refine DF hK1 (q30) BD BL
   ·skip
    refine CR (σ := Nat) rfl Tryz.call158 rfl (fun w1 => zu fun D' _ _ _ => J6 D' w1 b hb) ?_
    intro q16
    try rw [List.nil_append]
    refine DE 4 22 AB ?_ ?_
    ·skip
     refine BC rfl (BS rfl rfl rfl) rfl (fun b8 => ?_)
     refine AL 22 AB <| BC rfl (BS rfl rfl rfl) rfl (fun b26 => ?_)
     refine AL 25 AB <| BC rfl (BS rfl rfl rfl) rfl (fun b29 => ?_)
     refine AL 26 AB <| CR (σ := Option Addr × Nat) rfl Tryz.call96 rfl (fun w1 => zu fun D' _ hin _ => LM D' w1 _ (G3 k a b xs) MP (hin _ fun h hs ho => I2 (b := b29) hs (G3 k a b xs) ⟨[_], [_, _, _, _], rfl, IE (b := b8) hs [UInt8.ofNat k] hk8 (by simp), [_], [_, _, _], rfl, C7 (A := some ⟨q12, 0, none⟩) hs (DK a) rfl (DQ.2 rfl), [_], [_, _], rfl, C7 (A := some ⟨q16, 0, none⟩) hs (DK b) rfl (DQ.2 rfl), [_], [_], rfl, IE (b := b26) hs [UInt8.ofNat (xs.length / 256), UInt8.ofNat xs.length] hl8 (by simp), [_], [], rfl, L7 ho HA, rfl⟩ MO)) ?_
     intro q30
     try rw [List.nil_append]
     refine AE 27 rfl (DH rfl) rfl <| BY AB <| ?_
     refine DF hK1 (q30) BD BL
    skip
    refine BC rfl (BS rfl rfl rfl) rfl (fun b26 => ?_)
    refine AL 4 AB <| BC rfl (BS rfl rfl rfl) rfl (fun b8 => ?_)
    refine AL 25 AB <| BC rfl (BS rfl rfl rfl) rfl (fun b29 => ?_)
    refine AL 26 AB <| CR (σ := Option Addr × Nat) rfl Tryz.call96 rfl (fun w1 => zu fun D' _ hin _ => LM D' w1 _ (G3 k a b xs) MP (hin _ fun h hs ho => I2 (b := b29) hs (G3 k a b xs) ⟨[_], [_, _, _, _], rfl, IE (b := b8) hs [UInt8.ofNat k] hk8 (by simp), [_], [_, _, _], rfl, C7 (A := some ⟨q12, 0, none⟩) hs (DK a) rfl (DQ.2 rfl), [_], [_, _], rfl, C7 (A := some ⟨q16, 0, none⟩) hs (DK b) rfl (DQ.2 rfl), [_], [_], rfl, IE (b := b26) hs [UInt8.ofNat (xs.length / 256), UInt8.ofNat xs.length] hl8 (by simp), [_], [], rfl, L7 ho HA, rfl⟩ MO)) ?_
    intro q30
    try rw [List.nil_append]
    refine AE 27 rfl (DH rfl) rfl <| BY AB <| ?_
    refine DF hK1 (q30) BD BL
   skip
   refine BC rfl (BS rfl rfl rfl) rfl (fun b26 => ?_)
   refine DE 4 12 AB ?_ ?_
   ·skip
    refine BC rfl (BS rfl rfl rfl) rfl (fun b8 => ?_)
    refine AL 12 AB <| CR (σ := Nat) rfl Tryz.call158 rfl (fun w1 => zu fun D' _ _ _ => J6 D' w1 b hb) ?_
    intro q16
    try rw [List.nil_append]
    refine AL 25 AB <| BC rfl (BS rfl rfl rfl) rfl (fun b29 => ?_)
    refine AL 26 AB <| CR (σ := Option Addr × Nat) rfl Tryz.call96 rfl (fun w1 => zu fun D' _ hin _ => LM D' w1 _ (G3 k a b xs) MP (hin _ fun h hs ho => I2 (b := b29) hs (G3 k a b xs) ⟨[_], [_, _, _, _], rfl, IE (b := b8) hs [UInt8.ofNat k] hk8 (by simp), [_], [_, _, _], rfl, C7 (A := some ⟨q12, 0, none⟩) hs (DK a) rfl (DQ.2 rfl), [_], [_, _], rfl, C7 (A := some ⟨q16, 0, none⟩) hs (DK b) rfl (DQ.2 rfl), [_], [_], rfl, IE (b := b26) hs [UInt8.ofNat (xs.length / 256), UInt8.ofNat xs.length] hl8 (by simp), [_], [], rfl, L7 ho HA, rfl⟩ MO)) ?_
    intro q30
    try rw [List.nil_append]
    refine AE 27 rfl (DH rfl) rfl <| BY AB <| ?_
    refine DF hK1 (q30) BD BL
   skip
   refine CR (σ := Nat) rfl Tryz.call158 rfl (fun w1 => zu fun D' _ _ _ => J6 D' w1 b hb) ?_
   intro q16
   try rw [List.nil_append]
   refine AL 4 AB <| BC rfl (BS rfl rfl rfl) rfl (fun b8 => ?_)
   refine AL 25 AB <| BC rfl (BS rfl rfl rfl) rfl (fun b29 => ?_)
   refine AL 26 AB <| CR (σ := Option Addr × Nat) rfl Tryz.call96 rfl (fun w1 => zu fun D' _ hin _ => LM D' w1 _ (G3 k a b xs) MP (hin _ fun h hs ho => I2 (b := b29) hs (G3 k a b xs) ⟨[_], [_, _, _, _], rfl, IE (b := b8) hs [UInt8.ofNat k] hk8 (by simp), [_], [_, _, _], rfl, C7 (A := some ⟨q12, 0, none⟩) hs (DK a) rfl (DQ.2 rfl), [_], [_, _], rfl, C7 (A := some ⟨q16, 0, none⟩) hs (DK b) rfl (DQ.2 rfl), [_], [_], rfl, IE (b := b26) hs [UInt8.ofNat (xs.length / 256), UInt8.ofNat xs.length] hl8 (by simp), [_], [], rfl, L7 ho HA, rfl⟩ MO)) ?_
   intro q30
   try rw [List.nil_append]
   refine AE 27 rfl (DH rfl) rfl <| BY AB <| ?_
   refine DF hK1 (q30) BD BL
  skip
  refine BC rfl (BS rfl rfl rfl) rfl (fun b26 => ?_)
  refine DE 4 8 AB ?_ ?_
  ·skip
   refine BC rfl (BS rfl rfl rfl) rfl (fun b8 => ?_)
   refine AL 8 AB <| CR (σ := Nat) rfl Tryz.call158 rfl (fun w1 => zu fun D' _ _ _ => J6 D' w1 a ha) ?_
   intro q12
   try rw [List.nil_append]
   refine AL 12 AB <| CR (σ := Nat) rfl Tryz.call158 rfl (fun w1 => zu fun D' _ _ _ => J6 D' w1 b hb) ?_
   intro q16
   try rw [List.nil_append]
   refine AL 25 AB <| BC rfl (BS rfl rfl rfl) rfl (fun b29 => ?_)
   refine AL 26 AB <| CR (σ := Option Addr × Nat) rfl Tryz.call96 rfl (fun w1 => zu fun D' _ hin _ => LM D' w1 _ (G3 k a b xs) MP (hin _ fun h hs ho => I2 (b := b29) hs (G3 k a b xs) ⟨[_], [_, _, _, _], rfl, IE (b := b8) hs [UInt8.ofNat k] hk8 (by simp), [_], [_, _, _], rfl, C7 (A := some ⟨q12, 0, none⟩) hs (DK a) rfl (DQ.2 rfl), [_], [_, _], rfl, C7 (A := some ⟨q16, 0, none⟩) hs (DK b) rfl (DQ.2 rfl), [_], [_], rfl, IE (b := b26) hs [UInt8.ofNat (xs.length / 256), UInt8.ofNat xs.length] hl8 (by simp), [_], [], rfl, L7 ho HA, rfl⟩ MO)) ?_
   intro q30
   try rw [List.nil_append]
   refine AE 27 rfl (DH rfl) rfl <| BY AB <| ?_
   refine DF hK1 (q30) BD BL
  skip
  refine CR (σ := Nat) rfl Tryz.call158 rfl (fun w1 => zu fun D' _ _ _ => J6 D' w1 a ha) ?_
  intro q12
  try rw [List.nil_append]
  refine DE 4 12 AB ?_ ?_
  ·skip
   refine BC rfl (BS rfl rfl rfl) rfl (fun b8 => ?_)
   refine AL 12 AB <| CR (σ := Nat) rfl Tryz.call158 rfl (fun w1 => zu fun D' _ _ _ => J6 D' w1 b hb) ?_
   intro q16
   try rw [List.nil_append]
   refine AL 25 AB <| BC rfl (BS rfl rfl rfl) rfl (fun b29 => ?_)
   refine AL 26 AB <| CR (σ := Option Addr × Nat) rfl Tryz.call96 rfl (fun w1 => zu fun D' _ hin _ => LM D' w1 _ (G3 k a b xs) MP (hin _ fun h hs ho => I2 (b := b29) hs (G3 k a b xs) ⟨[_], [_, _, _, _], rfl, IE (b := b8) hs [UInt8.ofNat k] hk8 (by simp), [_], [_, _, _], rfl, C7 (A := some ⟨q12, 0, none⟩) hs (DK a) rfl (DQ.2 rfl), [_], [_, _], rfl, C7 (A := some ⟨q16, 0, none⟩) hs (DK b) rfl (DQ.2 rfl), [_], [_], rfl, IE (b := b26) hs [UInt8.ofNat (xs.length / 256), UInt8.ofNat xs.length] hl8 (by simp), [_], [], rfl, L7 ho HA, rfl⟩ MO)) ?_
   intro q30
   try rw [List.nil_append]
   refine AE 27 rfl (DH rfl) rfl <| BY AB <| ?_
   refine DF hK1 (q30) BD BL
  skip
  refine CR (σ := Nat) rfl Tryz.call158 rfl (fun w1 => zu fun D' _ _ _ => J6 D' w1 b hb) ?_
  intro q16
  try rw [List.nil_append]
  refine AL 4 AB <| BC rfl (BS rfl rfl rfl) rfl (fun b8 => ?_)
  refine AL 25 AB <| BC rfl (BS rfl rfl rfl) rfl (fun b29 => ?_)
  refine AL 26 AB <| CR (σ := Option Addr × Nat) rfl Tryz.call96 rfl (fun w1 => zu fun D' _ hin _ => LM D' w1 _ (G3 k a b xs) MP (hin _ fun h hs ho => I2 (b := b29) hs (G3 k a b xs) ⟨[_], [_, _, _, _], rfl, IE (b := b8) hs [UInt8.ofNat k] hk8 (by simp), [_], [_, _, _], rfl, C7 (A := some ⟨q12, 0, none⟩) hs (DK a) rfl (DQ.2 rfl), [_], [_, _], rfl, C7 (A := some ⟨q16, 0, none⟩) hs (DK b) rfl (DQ.2 rfl), [_], [_], rfl, IE (b := b26) hs [UInt8.ofNat (xs.length / 256), UInt8.ofNat xs.length] hl8 (by simp), [_], [], rfl, L7 ho HA, rfl⟩ MO)) ?_
  intro q30
  try rw [List.nil_append]
  refine AE 27 rfl (DH rfl) rfl <| BY AB <| ?_
  refine DF hK1 (q30) BD BL
 refine zt <| zg <| zm rfl <| zm rfl <| AV (BS rfl rfl rfl) rfl rfl rfl fun b33 =>  ?_
 refine B2 Tryz.call159 rfl rfl (fun w1 => D6 fun D' _ hin _ => pV D' w1 _ [preB k a b xs] (hin _ fun h hs ho => I2 (b := b33) hs _ ⟨[_], [], rfl, C7 (A := q.1) hs (preB k a b xs) rfl (DQ.2 rfl), rfl⟩ (by simp))) ?_
 refine CQ (σ := Nat) Tryz.call158 rfl rfl (fun w1 => zu fun D' _ _ _ => J6 D' w1 (Sm [preB k a b xs]) (hH _)) ?_
 intro q34
 try rw [List.nil_append]
 refine AV (BT (news := (DK (Sm [preB k a b xs])).map AU) rfl rfl (BB.G1 (A := some ⟨q34, 0, none⟩) (fun _ => rfl)) (by simp [DK]) (EL _) AF (by rw [RY]; omega)) rfl rfl rfl (fun q35 => ?_)
 refine zs rfl <| zn <| zq <| ?_
 have e1 : (preB k a b xs).length + 4 = 15 + xs.length := by rw [RY]; omega
 have e2 : (preB k a b xs).map AU ++ (DK (Sm [preB k a b xs])).map AU = (HN k a b xs).map AU := by rw [HN, List.map_append]
 rw [e1, e2]
 exact zz rfl rfl fun w' H' => ⟨q35, rfl, H'.AK Z8⟩
end Go.Proofs.YtjlolpmmpafjeaaGreat
