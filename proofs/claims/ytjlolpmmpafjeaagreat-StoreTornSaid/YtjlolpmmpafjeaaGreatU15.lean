import Derived.Test.YtjlolpmmpafjeaaGreatU14
set_option linter.unusedVariables false
set_option linter.unusedSimpArgs false
namespace Go.Proofs.YtjlolpmmpafjeaaGreat
open CN
variable (D : Nat → Prop) (w : World)
theorem dG (g : Nat) (i : Nat) (S : List BA) (P : List (Nat × BA)) (hi : i < S.length) (H : AH D w w [BV g S P]) :
  Calls Tryz.prog 90 #[.pointer (some ⟨g, 0, none⟩), .int .i64 i] w fun e w' => e = .returned (.tuple #[.agg (BI (N8 i P S[i])).toArray, .int .i64 0]) ∧ AH D w w' [BV g S P] := by
 refine BZ (vs := [.pointer (some ⟨g, 0, none⟩), .int .i64 i]) Tryz.func90 rfl _ Tryz.ntmps90 rfl H ?_
 simp only [BX, Nat.zero_add]
 refine HC.exs ?_
 rintro ⟨⟨A0, c0⟩, A1, c1⟩
 refine HC.AK (l' := [AI g 56 [.slice A0 S.length c0, .slice A1 P.length c1], row A0 61 64 S.length c0 (S.flatMap BI), row A1 63 65 P.length c1 (P.flatMap CT)]) (fun _ h => h) ?_
 refine HC.fact (fun w H => LN (A := A0) H) (fun hf0 => ?_)
 refine HC.fact (fun w H => LN (A := A1) H) (fun hf1 => ?_)
 have hA0 : CU A0 := hf0.2 (L6 DU AF AA)
 refine zg <| AV (B9) rfl rfl rfl fun b4 =>
  zs rfl <| zn <| ?_
 refine AG <| zg <| zm rfl <| zm rfl <| B2 Tryz.call127 rfl rfl (fun w1 => zp (AI g 56 [.slice A0 S.length c0, .slice A1 P.length c1]) fun D' _ _ H2 => bV D' w1 g i A0 A1 _ c0 _ c1 H2) ?_
 refine zv FC <| ?_
 refine zn <| CP rfl (by simp [hi]) ?_
 refine zk <| zg <| zm rfl <| zv (AY rfl) <| zf rfl <| zl rfl rfl <| zm rfl <| zv (CZ rfl DP rfl _ rfl AA) <| ?_
 refine AZ (D4 (cs := BI S[i]) rfl (DU _) (DZ.flat DU hA0 hi)) rfl <| AV (B9) rfl rfl rfl fun b6 =>  ?_
 refine A6 (CV rfl rfl (by simp) (by simp) (IF _)) rfl rfl ?_
 refine zn <| AG <| zg <| zs rfl <| zn <| BK <| GL (σ := Nat) [0, 1, 4, 6] rfl 7 (fun j => .int .i64 j) (fun j => [AI b6 61 (BI (N8 i (P.take j) S[i])), AI b4 61 (List.replicate 64 (.int .u8 0)), AI g 56 [.slice A0 S.length c0, .slice A1 P.length c1], row A0 61 64 S.length c0 (S.flatMap BI), row A1 63 65 P.length c1 (P.flatMap CT)]) (fun j => j ≤ P.length) (fun j => P.length - j) (0) (Nat.zero_le _) rfl ((show AD _ (AI b6 61 (BI S[i]) :: _) from Z8)) ?_
 rintro j hj K1 hK1
 refine AG <| zg <| zm rfl <| zm rfl <| zv (AY rfl) <| zf rfl <| zl rfl rfl <| zv BN <| ?_
 refine zv (B7 rfl rfl) <| zn <| BP rfl (fun hlt => ?_) (fun hlt => ?_)
 ·have hlt : j < P.length := by omega
  have hA1 : CU A1 := hf1.2 (L6 HH AF AA)
  have hsn := List.take_succ_eq_append_getElem hlt
  have hcl : ∀ l r, [GC l A1 63 65 P.length c1 (P.flatMap CT) r] → EH D w l (ab A1) (ao A1 + j * 65 + 0) (.int .i64 (P[j].1 : Int)) := fun l r _ => (DZ.flat HH hA1 hlt).cell (i := 0) rfl
  refine zk <| AG <| BK <| zg <| zm rfl <| zv (AY rfl) <| zf rfl <| zl rfl rfl <| zm rfl <| zv (CZ rfl DP rfl _ rfl AA) <| ?_
  refine zf rfl <| ?_
  refine AZ (GB rfl (hcl _ _)) rfl <| zm rfl <| zv (CO rfl rfl) <| zn <| NC (σ := Unit) [0, 1, 4, 6, 7] rfl  (fun _u => [AI b6 61 (BI (N8 i (P.take (j + 1)) S[i])), AI b4 61 (List.replicate 64 (.int .u8 0)), AI g 56 [.slice A0 S.length c0, .slice A1 P.length c1], row A0 61 64 S.length c0 (S.flatMap BI), row A1 63 65 P.length c1 (P.flatMap CT)]) (fun K2 hK2 => ?_) (fun _u => ?_)
  ·rw [hsn, ZQ] at hK2
   refine BP rfl (fun he => ?_) (fun he => ?_)
   ·rw [if_pos AA] at hK2
    refine AR <| zm rfl <| zv (AY rfl) <| zf rfl <| zl rfl rfl <| zm rfl <| ?_
    refine zv (CZ rfl DP rfl _ rfl AA) <| zf rfl <| ?_
    refine AZ (D4 (cs := BI P[j].2) rfl (DU _) (DZ.sub (DZ.flat HH hA1 hlt) (fun k v h => by rw [Nat.add_comm]; exact h))) rfl ?_
    refine A6 (CV rfl rfl (by simp) (by simp) (IF _)) rfl rfl ?_
    refine AS <| DF hK2 (()) BD BL
   rw [if_neg AA] at hK2
   refine C3 <| DF hK2 (()) BD BL
  refine zb <| zt <| AR <| zm rfl <| zv (BM rfl rfl BO) <| ?_
  refine zs rfl <| AS <| B5 hK1 (j + 1) (hlt) AA BD BL
 have : j = P.length := by omega
 subst this
 rw [List.take_length]
 refine CF <| ze <| ze <| CE <| zt <| AG <| AR <| zv DY <| ?_
 refine A6 (CV rfl rfl (by simp) (by simp) (IF _)) rfl rfl ?_
 refine zs rfl <| zn <| zq <| ?_
 exact ID (.inr rfl) rfl rfl (by simp) rfl fun w' H' => ⟨rfl, H'.AK (AD.trans Z8 (JK (A0 := A0) (c0 := c0) (A1 := A1) (c1 := c1)))⟩
theorem YJ (g : Nat) (S : List BA) (P : List (Nat × BA)) (hP : ∀ p ∈ P, p.1 < S.length) (H : AH D w w [BV g S P]) :
  Calls Tryz.prog 88 #[.pointer (some ⟨g, 0, none⟩)] w fun e w' => e = .returned (.tuple #[]) ∧ AH D w w' [BV g (FF (fun _ => true) 0 S P) []] := by
 refine BZ (vs := [.pointer (some ⟨g, 0, none⟩)]) Tryz.func88 rfl _ Tryz.ntmps88 rfl H ?_
 simp only [BX, Nat.zero_add]
 refine HC.exs ?_
 rintro ⟨⟨A0, c0⟩, A1, c1⟩
 refine HC.AK (l' := [AI g 56 [.slice A0 S.length c0, .slice A1 P.length c1], row A0 61 64 S.length c0 (S.flatMap BI), row A1 63 65 P.length c1 (P.flatMap CT)]) (fun _ h => h) ?_
 refine HC.fact (fun w H => LN (A := A0) H) (fun hf0 => ?_)
 refine HC.fact (fun w H => LN (A := A1) H) (fun hf1 => ?_)
 refine AG <| zg <| zs rfl <| zn <| BK <| GL (σ := Nat) [0] rfl 2 (fun j => .int .i64 j) (fun j => [AI g 56 [.slice A0 S.length c0, .slice A1 P.length c1], row A0 61 64 S.length c0 ((FF (fun _ => true) 0 S (P.take j)).flatMap BI), row A1 63 65 P.length c1 (P.flatMap CT)]) (fun j => j ≤ P.length) (fun j => P.length - j) (0) (Nat.zero_le _) rfl (AD.refl _) ?_
 rintro j hj K1 hK1
 refine AG <| zg <| zm rfl <| zm rfl <| zv (AY rfl) <| zf rfl <| zl rfl rfl <| zv BN <| ?_
 refine zv (B7 rfl rfl) <| zn <| BP rfl (fun hlt => ?_) (fun hlt => ?_)
 ·have hlt : j < P.length := by omega
  have hA1 : CU A1 := hf1.2 (L6 HH AF AA)
  have hsn := List.take_succ_eq_append_getElem hlt
  have hpj := hP _ (List.getElem_mem hlt)
  have hA0 : CU A0 := hf0.2 (L6 DU AF AA)
  have hsl := PC (fun _ => true) (P.take j) 0 S
  have hcl : ∀ l r, [GC l A1 63 65 P.length c1 (P.flatMap CT) r] → EH D w l (ab A1) (ao A1 + j * 65 + 0) (.int .i64 (P[j].1 : Int)) := fun l r _ => (DZ.flat HH hA1 hlt).cell (i := 0) rfl
  have hst := VW (fun _ => true) (P.take j) 0 S P[j]
  rw [if_pos rfl, ← hsn] at hst
  refine zk <| AG <| BK <| EF [AI g 56 [.slice A0 S.length c0, .slice A1 P.length c1], row A1 63 65 P.length c1 (P.flatMap CT)] mixed 22 rfl ?_
  refine AE 0 rfl (AO rfl) rfl <| AE 1 rfl (AY rfl) rfl <| AE 2 rfl (AP rfl) rfl <| AE 3 rfl (zw rfl rfl) rfl <| AE 4 rfl (AO rfl) rfl <| AE 5 rfl (AY rfl) rfl <| AE 6 rfl (AP rfl) rfl <| AE 7 rfl (zw rfl rfl) rfl <| AE 8 rfl (AO rfl) rfl <| AE 9 rfl (CZ rfl DP rfl _ rfl AA) rfl <| ?_
  refine AE 10 rfl (AP rfl) rfl <| AE 12 rfl (AO rfl) rfl <| AE 13 rfl (AY rfl) rfl <| AE 14 rfl (AP rfl) rfl <| AE 15 rfl (zw rfl rfl) rfl <| AE 16 rfl (AO rfl) rfl <| AE 17 rfl (CZ rfl DP rfl _ rfl AA) rfl <| ?_
  refine AE 18 rfl (AP rfl) rfl <| AE 11 rfl (GB rfl (hcl _ _)) rfl <| AL 19 AB <| CW rfl (D4 (cs := BI P[j].2) rfl (DU _) (DZ.sub (DZ.flat HH hA1 hlt) (fun k v h => by rw [Nat.add_comm]; exact h))) rfl ?_
  refine AE 20 rfl (CZ rfl DP rfl _ rfl AA) rfl <| ?_
  refine AL 21 AB <| CB rfl (Y8 (A := A0) (vs := BI P[j].2) rfl rfl (DU _) (by rw [FU DU]; omega) (by rw [FU DU, DU, ← Nat.succ_mul]; exact Nat.mul_le_mul_right _ AA) (IF _)) rfl ?_
  rw [WY DU _ P[j].1 P[j].2 AA]
  refine BY AB <| zb <| zt <| AR <| zm rfl <| zv (BM rfl rfl BO) <| ?_
  refine zs rfl <| AS <| ?_
  exact B5 hK1 (j + 1) (hlt) AA BD (by rw [hst]; exact Z8)
 have : j = P.length := by omega
 subst this
 rw [List.take_length]
 have hsl := PC (fun _ => true) P 0 S
 refine CF <| ze <| ze <| CE <| zt <| AR <| zm rfl <| zv (AY rfl) <| zf rfl <| A6 (DN rfl rfl rfl rfl rfl) rfl rfl <| AS <| ?_
 refine M9 (.inl rfl) rfl fun w' H' => ⟨rfl, H'.AK ?_⟩
 have hd := JK (tD := 56) (tL := 63) (g := g) (S := FF (fun _ => true) 0 S P) (P := []) (A0 := A0) (c0 := c0) (A1 := none) (c1 := 0) (l := [])
 rw [hsl] at hd
 exact AD.trans (AD.cons (AD.cons ((AD.nil _).trans (AD.EB _ _)))) hd
theorem kU (n : Nat) (hn : n < 4294967296) (v : Value) (xs : List UInt8) (HA : Old D w (AX.rep xs [v])) :
  Calls Tryz.prog 172 #[.int .u32 n, v] w fun e w' => e = .returned (.int .u32 (Mr n xs)) ∧ AH D w w' [] := by
 obtain ⟨A, cap, rfl, hc1, hc2, HS, hel⟩ := HA.sE
 refine BZ (vs := [.int .u32 n, .slice A xs.length cap]) Tryz.func172 rfl _ Tryz.ntmps172 rfl (AH.start D w) ?_
 simp only [BX, Nat.zero_add]
 repeat (first | refine AG ?_ | refine AR ?_ | refine zt ?_ | refine BK ?_ | refine C3 ?_ | refine zq ?_ | refine CF ?_ | refine zr ?_ | refine ze ?_ | refine zb ?_ | refine B4 ?_ | refine CE ?_ | refine FO rfl ?_ | refine AS ?_ | refine FG Z0 rfl rfl rfl ?_ | refine AV (B9) rfl rfl rfl (fun _ => ?_) | refine AV (BS rfl rfl rfl) rfl rfl rfl (fun _ => ?_) | refine A6 (DN rfl rfl rfl rfl rfl) rfl rfl ?_ | refine A6 (DT rfl rfl rfl rfl rfl rfl) rfl rfl ?_ | refine EN (on_mark rfl) rfl rfl rfl ?_ | refine AJ rfl rfl ?_ | refine F6 rfl rfl rfl rfl rfl rfl ?_)
 refine FG (XS (m := ((n / 65536 : Nat) : Int)) rfl rfl AF ?_) rfl rfl rfl ?_
 ·exact IntWalk.u32_quo _ _ AA
 repeat (first | refine AG ?_ | refine AR ?_ | refine zt ?_ | refine BK ?_ | refine C3 ?_ | refine zq ?_ | refine CF ?_ | refine zr ?_ | refine ze ?_ | refine zb ?_ | refine B4 ?_ | refine CE ?_ | refine FO rfl ?_ | refine AS ?_ | refine FG Z0 rfl rfl rfl ?_ | refine AV (B9) rfl rfl rfl (fun _ => ?_) | refine AV (BS rfl rfl rfl) rfl rfl rfl (fun _ => ?_) | refine A6 (DN rfl rfl rfl rfl rfl) rfl rfl ?_ | refine A6 (DT rfl rfl rfl rfl rfl rfl) rfl rfl ?_ | refine EN (on_mark rfl) rfl rfl rfl ?_ | refine AJ rfl rfl ?_ | refine F6 rfl rfl rfl rfl rfl rfl ?_)
 have hq : (n % 65536 % 65521) < 65521 ∧ (n / 65536 % 65521) < 65521 := by omega
 refine MV (σ := Nat) (fun k => [(7, .int .i64 k), (5, .int .u32 (KJ (n % 65536 % 65521, n / 65536 % 65521) (xs.take k)).1), (6, .int .u32 (KJ (n % 65536 % 65521, n / 65536 % 65521) (xs.take k)).2), (1, .slice A xs.length cap)])
  (fun k => []) (fun k => k ≤ xs.length) (fun k => xs.length - k) 0 (Nat.zero_le _) BD (AD.refl _) ?_
 intro k hk K hK
 have hb := UN (xs.take k) (n % 65536 % 65521, n / 65536 % 65521) hq.1 hq.2
 generalize hs : KJ (n % 65536 % 65521, n / 65536 % 65521) (xs.take k) = q at hb
 repeat (first | refine AG ?_ | refine AR ?_ | refine zt ?_ | refine BK ?_ | refine C3 ?_ | refine zq ?_ | refine CF ?_ | refine zr ?_ | refine ze ?_ | refine zb ?_ | refine B4 ?_ | refine CE ?_ | refine FO rfl ?_ | refine AS ?_ | refine FG Z0 rfl rfl rfl ?_ | refine AV (B9) rfl rfl rfl (fun _ => ?_) | refine AV (BS rfl rfl rfl) rfl rfl rfl (fun _ => ?_) | refine A6 (DN rfl rfl rfl rfl rfl) rfl rfl ?_ | refine A6 (DT rfl rfl rfl rfl rfl rfl) rfl rfl ?_ | refine EN (on_mark rfl) rfl rfl rfl ?_ | refine AJ rfl rfl ?_ | refine F6 rfl rfl rfl rfl rfl rfl ?_)
 refine BP rfl (fun hlt => ?_) (fun hge => ?_)
 ·have hlt : k < xs.length := by omega
  obtain ⟨hA, hcl⟩ := hel k hlt
  have hx := xs[k].toNat_lt
  have hsn := aN (n % 65536 % 65521, n / 65536 % 65521) xs k hlt
  rw [hs] at hsn
  generalize xs[k] = x at *
  repeat (first | refine AG ?_ | refine AR ?_ | refine zt ?_ | refine BK ?_ | refine C3 ?_ | refine zq ?_ | refine CF ?_ | refine zr ?_ | refine ze ?_ | refine zb ?_ | refine B4 ?_ | refine CE ?_ | refine FO rfl ?_ | refine AS ?_ | refine FG Z0 rfl rfl rfl ?_ | refine AV (B9) rfl rfl rfl (fun _ => ?_) | refine AV (BS rfl rfl rfl) rfl rfl rfl (fun _ => ?_) | refine A6 (DN rfl rfl rfl rfl rfl) rfl rfl ?_ | refine A6 (DT rfl rfl rfl rfl rfl rfl) rfl rfl ?_ | refine EN (on_mark rfl) rfl rfl rfl ?_ | refine AJ rfl rfl ?_ | refine F6 rfl rfl rfl rfl rfl rfl ?_)
  refine QV fun a w S => hK (k + 1) a w hlt AA ⟨S.env.sub ?_, S.own⟩
  rw [hsn]
  exact BD
 ·have : k = xs.length := by omega
  subst this
  rw [List.take_length] at hs
  repeat (first | refine AG ?_ | refine AR ?_ | refine zt ?_ | refine BK ?_ | refine C3 ?_ | refine zq ?_ | refine CF ?_ | refine zr ?_ | refine ze ?_ | refine zb ?_ | refine B4 ?_ | refine CE ?_ | refine FO rfl ?_ | refine AS ?_ | refine FG Z0 rfl rfl rfl ?_ | refine AV (B9) rfl rfl rfl (fun _ => ?_) | refine AV (BS rfl rfl rfl) rfl rfl rfl (fun _ => ?_) | refine A6 (DN rfl rfl rfl rfl rfl) rfl rfl ?_ | refine A6 (DT rfl rfl rfl rfl rfl rfl) rfl rfl ?_ | refine EN (on_mark rfl) rfl rfl rfl ?_ | refine AJ rfl rfl ?_ | refine F6 rfl rfl rfl rfl rfl rfl ?_)
  exact zz rfl rfl fun w' H' => ⟨by unfold Mr KO; rw [hs]; rfl, H'⟩
theorem sY (q : Nat × Nat) (h1 : q.1 < 65521) (h2 : q.2 < 65521) (xs : List UInt8) : Mr (KO q) xs = KO (KJ q xs) := by
 unfold Mr
 have e1 : KO q % 65536 % 65521 = q.1 := by unfold KO; omega
 have e2 : KO q / 65536 % 65521 = q.2 := by unfold KO; omega
 rw [e1, e2]
theorem lU (v : Value) (xss : List (List UInt8)) (HA : Old D w (AX.rep xss [v])) :
  Calls Tryz.prog 163 #[v] w fun e w' => e = .returned (.int .u32 (Sm xss)) ∧ AH D w w' [] := by
 obtain ⟨A, cap, rfl, hc1, hc2, hel⟩ := HA.XT rfl
 refine BZ (vs := [.slice A xss.length cap]) Tryz.func163 rfl _ Tryz.ntmps163 rfl (AH.start D w) ?_
 simp only [BX, Nat.zero_add]
 repeat (first | refine AG ?_ | refine AR ?_ | refine zt ?_ | refine BK ?_ | refine C3 ?_ | refine zq ?_ | refine CF ?_ | refine zr ?_ | refine ze ?_ | refine zb ?_ | refine B4 ?_ | refine CE ?_ | refine FO rfl ?_ | refine AS ?_ | refine FG Z0 rfl rfl rfl ?_ | refine AV (B9) rfl rfl rfl (fun _ => ?_) | refine AV (BS rfl rfl rfl) rfl rfl rfl (fun _ => ?_) | refine A6 (DN rfl rfl rfl rfl rfl) rfl rfl ?_ | refine A6 (DT rfl rfl rfl rfl rfl rfl) rfl rfl ?_ | refine EN (on_mark rfl) rfl rfl rfl ?_ | refine AJ rfl rfl ?_ | refine F6 rfl rfl rfl rfl rfl rfl ?_)
 refine MV (σ := Nat) (fun k => [(4, .int .i64 k), (3, .int .u32 (KO (MA (1, 0) (xss.take k)))), (0, .slice A xss.length cap)])
  (fun k => []) (fun k => k ≤ xss.length) (fun k => xss.length - k) 0 (Nat.zero_le _) (by rw [show KO (MA (1, 0) (xss.take 0)) = 1 from by simp [MA, KO]]; exact BD) (AD.refl _) ?_
 intro k hk K hK
 have hb := TU (xss.take k) (1, 0) AF AF
 generalize hq : MA (1, 0) (xss.take k) = q at hb
 repeat (first | refine AG ?_ | refine AR ?_ | refine zt ?_ | refine BK ?_ | refine C3 ?_ | refine zq ?_ | refine CF ?_ | refine zr ?_ | refine ze ?_ | refine zb ?_ | refine B4 ?_ | refine CE ?_ | refine FO rfl ?_ | refine AS ?_ | refine FG Z0 rfl rfl rfl ?_ | refine AV (B9) rfl rfl rfl (fun _ => ?_) | refine AV (BS rfl rfl rfl) rfl rfl rfl (fun _ => ?_) | refine A6 (DN rfl rfl rfl rfl rfl) rfl rfl ?_ | refine A6 (DT rfl rfl rfl rfl rfl rfl) rfl rfl ?_ | refine EN (on_mark rfl) rfl rfl rfl ?_ | refine AJ rfl rfl ?_ | refine F6 rfl rfl rfl rfl rfl rfl ?_)
 refine BP rfl (fun hlt => ?_) (fun hge => ?_)
 ·have hlt : k < xss.length := by omega
  obtain ⟨hA, u, hu, hcl⟩ := hel k hlt
  have hsn := YZ (1, 0) xss k hlt
  rw [hq] at hsn
  generalize xss[k] = xs at *
  repeat (first | refine AG ?_ | refine AR ?_ | refine zt ?_ | refine BK ?_ | refine C3 ?_ | refine zq ?_ | refine CF ?_ | refine zr ?_ | refine ze ?_ | refine zb ?_ | refine B4 ?_ | refine CE ?_ | refine FO rfl ?_ | refine AS ?_ | refine FG Z0 rfl rfl rfl ?_ | refine AV (B9) rfl rfl rfl (fun _ => ?_) | refine AV (BS rfl rfl rfl) rfl rfl rfl (fun _ => ?_) | refine A6 (DN rfl rfl rfl rfl rfl) rfl rfl ?_ | refine A6 (DT rfl rfl rfl rfl rfl rfl) rfl rfl ?_ | refine EN (on_mark rfl) rfl rfl rfl ?_ | refine AJ rfl rfl ?_ | refine F6 rfl rfl rfl rfl rfl rfl ?_)
  refine B2 Tryz.call172 rfl rfl (fun w1 H1 => AH.gU H1 fun D' hold _ H2 => kU D' w1 (KO q) (dI hb.1 hb.2) u xs (hold _ hu)) ?_
  repeat (first | refine AG ?_ | refine AR ?_ | refine zt ?_ | refine BK ?_ | refine C3 ?_ | refine zq ?_ | refine CF ?_ | refine zr ?_ | refine ze ?_ | refine zb ?_ | refine B4 ?_ | refine CE ?_ | refine FO rfl ?_ | refine AS ?_ | refine FG Z0 rfl rfl rfl ?_ | refine AV (B9) rfl rfl rfl (fun _ => ?_) | refine AV (BS rfl rfl rfl) rfl rfl rfl (fun _ => ?_) | refine A6 (DN rfl rfl rfl rfl rfl) rfl rfl ?_ | refine A6 (DT rfl rfl rfl rfl rfl rfl) rfl rfl ?_ | refine EN (on_mark rfl) rfl rfl rfl ?_ | refine AJ rfl rfl ?_ | refine F6 rfl rfl rfl rfl rfl rfl ?_)
  refine QV fun a w S => hK (k + 1) a w hlt AA ⟨S.env.sub ?_, S.own⟩
  rw [hsn, ← sY q hb.1 hb.2]
  exact BD
 ·have : k = xss.length := by omega
  subst this
  rw [List.take_length] at hq
  repeat (first | refine AG ?_ | refine AR ?_ | refine zt ?_ | refine BK ?_ | refine C3 ?_ | refine zq ?_ | refine CF ?_ | refine zr ?_ | refine ze ?_ | refine zb ?_ | refine B4 ?_ | refine CE ?_ | refine FO rfl ?_ | refine AS ?_ | refine FG Z0 rfl rfl rfl ?_ | refine AV (B9) rfl rfl rfl (fun _ => ?_) | refine AV (BS rfl rfl rfl) rfl rfl rfl (fun _ => ?_) | refine A6 (DN rfl rfl rfl rfl rfl) rfl rfl ?_ | refine A6 (DT rfl rfl rfl rfl rfl rfl) rfl rfl ?_ | refine EN (on_mark rfl) rfl rfl rfl ?_ | refine AJ rfl rfl ?_ | refine F6 rfl rfl rfl rfl rfl rfl ?_)
  exact zz rfl rfl fun w' H' => ⟨by unfold Sm; rw [hq], H'⟩
theorem TO (n : Nat) (hn : n < 4294967296) :
  Calls Tryz.prog 162 #[.int .u32 n] w fun e w' => ∃ b : Nat, e = .returned (.slice (some ⟨b, 0, none⟩) 4 4) ∧ AH D w w' [row (some ⟨b, 0, none⟩) 5 1 4 4 ((DK n).map AU)] := by
 rw [Y4]
 refine BZ (vs := [.int .u32 n]) Tryz.func162 rfl _ Tryz.ntmps162 rfl (AH.start D w) ?_
 simp only [BX, Nat.zero_add]
 refine zg <| zs rfl <| zn <| AG <| AR <| zm rfl <| AZ (JT (m := ((n / 16777216 : Nat) : Int)) rfl rfl AF (OY n 24)) rfl ?_
 refine AZ (CD (m := ((n / 16777216 % 256 : Nat) : Int)) rfl (NI _)) rfl <| zm rfl <| AZ (JT (m := ((n / 65536 : Nat) : Int)) rfl rfl AF (OY n 16)) rfl ?_
 refine AZ (CD (m := ((n / 65536 % 256 : Nat) : Int)) rfl (NI _)) rfl <| zm rfl <| AZ (JT (m := ((n / 256 : Nat) : Int)) rfl rfl AF (OY n 8)) rfl ?_
 refine AZ (CD (m := ((n / 256 % 256 : Nat) : Int)) rfl (NI _)) rfl <| zm rfl <| AZ (CD (m := ((n % 256 : Nat) : Int)) rfl (NI _)) rfl <| AV (BS rfl rfl rfl) rfl rfl rfl fun b14 =>
  zs rfl <| zn <| zq <| ?_
 exact zz rfl rfl fun w' H' => ⟨_, rfl, H'.AK (AD.FQ 1 4 rfl AF)⟩
theorem oA (v : Value) (xs : List UInt8) (hl : xs.length ≤ 4) (HA : Old D w (AX.rep xs [v])) :
  Calls Tryz.prog 128 #[v] w fun e w' => e = .returned (.int .u32 (IB xs)) ∧ AH D w w' [] := by
 obtain ⟨A, cap, rfl, hc1, hc2, HS⟩ := HA.IG
 refine BZ (vs := [.slice A xs.length cap]) Tryz.func128 rfl _ Tryz.ntmps128 rfl (AH.start D w) ?_
 simp only [BX, Nat.zero_add]
 refine zg <| zs rfl <| zn <| AG <| AR <| zs rfl <| zn <| AG <| AG <| AR <| zs rfl <| zn <| BK <| PI (σ := Nat) [0] rfl 4 (fun k => .int .i64 (k : Int)) 3 (fun k => .int .u32 ((IB (xs.take k) : Nat) : Int)) (fun k => k ≤ xs.length) (fun k => xs.length - k) (0) (Nat.zero_le _) rfl rfl ?_
 rintro k hj K1 hK1
 refine AG <| zg <| zm rfl <| zm rfl <| zv BN <| ?_
 refine zv (B7 rfl rfl) <| zn <| BP rfl (fun h => ?_) (fun h => ?_)
 ·have hlt : k < xs.length := by omega
  have hA : CU A := HS.CU S6
  have hcell : EH D w [] (ab A) (ao A + k * 1) (AU xs[k]) := by
   rw [Nat.mul_one]
   exact (BB.old HS).cell (by simp [hlt])
  have hx := xs[k].toNat_lt
  have hsn := WN xs k hlt
  have hb := UO xs k hj
  have hb3 : IB (xs.take k) < 16777216 := Nat.lt_of_lt_of_le hb (by have : 256 ^ k ≤ 256 ^ 3 := Nat.pow_le_pow_right AF AA; exact this)
  obtain ⟨m, hm⟩ : ∃ m, m = IB (xs.take k) := ⟨_, rfl⟩
  rw [← hm] at hsn hb3
  unfold AU at hcell
  refine zk <| AG <| BK <| AR <| zm rfl <| AZ (PX (m := ((m * 256 : Nat) : Int)) rfl rfl AF (by rw [← hm]; show IntKind.u32.wrap ((m : Int) * 256) = _; rw [show (m : Int) * 256 = ((m * 256 : Nat) : Int) by omega]; exact wrap_u32 AA)) rfl ?_
  refine zm rfl <| zm rfl <| AZ (CZ rfl hA rfl k rfl hlt) rfl <| AZ (GB rfl hcell) rfl <| zv (CD rfl NP) <| ?_
  refine AZ (BM (m := ((IB (xs.take (k + 1)) : Nat) : Int)) rfl rfl (by rw [hsn]; exact (wrap_u32 AA).trans AA)) rfl ?_
  refine zs rfl <| AS <| zb <| zt <| AR <| zm rfl <| zv (BM rfl rfl BO) <| ?_
  refine zs rfl <| AS <| B5 hK1 (k + 1) AA AA BD BL
 have : k = xs.length := by omega
 subst this
 refine CF <| ze <| ze <| CE <| zt <| AG <| AR <| zm rfl <| zs rfl <| zn <| zq <| ?_
 exact zz rfl rfl fun w' H' => ⟨by rw [List.take_length], H'⟩
theorem lQ (n : Int) :
  Calls Tryz.prog 129 #[.int .i64 n] w fun e w' => e = .returned (.int .i64 (JX n)) ∧ AH D w w' [] := by
 refine BZ (vs := [.int .i64 n]) Tryz.func129 rfl _ Tryz.ntmps129 rfl (AH.start D w) ?_
 simp only [BX, Nat.zero_add]
 refine zg <| zs rfl <| zn <| AG <| zg <| zm rfl <| zv (B7 rfl rfl) <| zm rfl <| DB (t := 5) rfl (fun h0 => ?_) (fun h0 => ?_)
 ·have : JX n = 0 := by unfold JX; rw [if_pos (.inl h0)]
  rw [this]
  refine zo rfl rfl <| zo rfl rfl <| zv (BF rfl rfl) <| zn <| DD rfl <| zg <| zs rfl <| zn <| zq <| zr <| ?_
  exact zz rfl rfl fun w' H' => ⟨rfl, H'⟩
 refine AJ rfl rfl <| zm rfl <| AJ rfl rfl <| zv (DV rfl rfl) <| zv (A8 rfl rfl) <| zn <| BP rfl (fun h1 => ?_) (fun h1 => ?_)
 ·have : JX n = 0 := by unfold JX; rw [if_pos (.inr AA)]
  rw [this]
  refine zg <| zs rfl <| zn <| zq <| zr <| ?_
  exact zz rfl rfl fun w' H' => ⟨rfl, H'⟩
 have : JX n = (n + 77) / 63 := by unfold JX; rw [if_neg AA]
 rw [this]
 refine zk <| zg <| zm rfl <| zv (BM rfl rfl BO) <| ?_
 refine zv (BM rfl rfl BO) <| ?_
 refine AZ (XS (m := (n + 77) / 63) rfl rfl AF (by rw [Int.tdiv_eq_ediv_of_nonneg AA]; rw [show n + 15 + 62 = n + 77 by omega]; exact wrap_i64 AA)) rfl ?_
 refine zs rfl <| zn <| zq <| ?_
 exact zz rfl rfl fun w' H' => ⟨rfl, H'⟩
theorem jF (k a b : Nat) (v : Value) (xs : List UInt8) (hk : k < 256) (ha : a < 4294967296) (hb : b < 4294967296) (hx : xs.length ≤ 4000) (HA : Old D w (AX.rep xs [v])) :
  Calls Tryz.prog 150 #[.agg #[.int .i64 k, .int .u32 a, .int .u32 b, v]] w fun e w' => ∃ q : Option Addr × Nat, e = .returned (.slice q.1 (15 + xs.length) q.2) ∧ AH D w w' [row q.1 5 1 (15 + xs.length) q.2 ((HN k a b xs).map AU)] := by
 obtain ⟨A, cap, rfl, hc1, hc2, HS⟩ := HA.IG
 have hk8 : [Value.int .u8 (k : Int)] = [UInt8.ofNat k].map AU := by rw [UF k hk]; rfl
 have hl8 : [Value.int .u8 ((xs.length / 256 : Nat) : Int), Value.int .u8 ((xs.length % 256 : Nat) : Int)] = [UInt8.ofNat (xs.length / 256), UInt8.ofNat xs.length].map AU := by
  rw [UF (xs.length / 256) AA, ← TS]; rfl
 obtain ⟨F1, hF1e⟩ : ∃ F, F = [UInt8.ofNat k] ++ DK a := ⟨_, rfl⟩
 obtain ⟨F2, hF2e⟩ : ∃ F, F = F1 ++ DK b := ⟨_, rfl⟩
 obtain ⟨F3, hF3e⟩ : ∃ F, F = F2 ++ [UInt8.ofNat (xs.length / 256), UInt8.ofNat xs.length] := ⟨_, rfl⟩
 obtain ⟨F4, hF4e⟩ : ∃ F, F = F3 ++ xs := ⟨_, rfl⟩
 have hpre : F4 = preB k a b xs := by rw [hF4e, hF3e, hF2e, hF1e]; simp [preB, G3]
 have hF1 : [Value.int .u8 (k : Int)] ++ (DK a).map AU = F1.map AU := by rw [hF1e, List.map_append, ← hk8]
 have hF2 : F1.map AU ++ (DK b).map AU = F2.map AU := by rw [hF2e, List.map_append]
 have hF3 : F2.map AU ++ [Value.int .u8 ((xs.length / 256 : Nat) : Int), Value.int .u8 ((xs.length % 256 : Nat) : Int)] = F3.map AU := by rw [hF3e, List.map_append, ← hl8]
 have hF4 : F3.map AU ++ xs.map AU = F4.map AU := by rw [hF4e, List.map_append]
 have hF4l : F4.length = 11 + xs.length := by rw [hpre]; exact RY k a b xs
 refine BZ (vs := [.agg #[.int .i64 k, .int .u32 a, .int .u32 b, .slice A xs.length cap]]) Tryz.func150 rfl _ Tryz.ntmps150 rfl (AH.start D w) ?_
 simp only [BX, Nat.zero_add]
 refine zg <| AV (EE rfl rfl) rfl rfl rfl fun b1 =>  ?_
 refine zs rfl <| zn <| AG <| NX (σ := Option Addr × Nat) [1] rfl 3 (fun q => .slice q.1 5 q.2) (fun q => [row q.1 5 1 5 q.2 (F1.map AU), AI b1 192 [.int .i64 k, .int .u32 a, .int .u32 b, .slice A xs.length cap]]) (fun K1 hK1 => ?_) (fun q => ?_)
 ·refine EF [AI b1 192 [.int .i64 k, .int .u32 a, .int .u32 b, .slice A xs.length cap]] mixed 9 rfl ?_
  refine AE 0 rfl (AP rfl) rfl <| AE 1 rfl (zw rfl rfl) rfl <| AE 4 rfl (AP rfl) rfl <| AE 5 rfl (zw rfl rfl) rfl <| AE 2 rfl (CD (m := (k : Int)) rfl (wrap_u8 AA)) rfl ?_
  refine DE 3 6 AB ?_ ?_
  ·skip
   refine BC rfl (BS rfl rfl rfl) rfl fun b7 =>  ?_
   refine AL 6 AB <| CR (σ := Nat) rfl Tryz.call162 rfl (fun w1 => zu fun D' _ _ _ => TO D' w1 a ha) ?_
   intro q10
   try rw [List.nil_append]
   refine AL 7 AB <| ?_
   first | refine IW (AD.FQ (b := b7) 1 1 rfl AF) ?_ | refine IW (AD.trans (AD.perm (List.Perm.swap _ _ _)) (AD.FQ (b := b7) 1 1 rfl AF)) ?_
   refine BC rfl (BT (A := some ⟨b7, 0, none⟩) (news := (DK a).map AU) rfl rfl (BB.G1 (A := some ⟨q10, 0, none⟩) (fun _ => rfl)) (by simp [DK]) (EL _) AF AF) rfl (fun q => ?_)
   rw [hF1]
   refine AE 8 rfl (DH rfl) rfl <| BY AB <| ?_
   refine DF hK1 (q) BD BL
  skip
  refine CR (σ := Nat) rfl Tryz.call162 rfl (fun w1 => zu fun D' _ _ _ => TO D' w1 a ha) ?_
  intro q10
  try rw [List.nil_append]
  refine AL 3 AB <| BC rfl (BS rfl rfl rfl) rfl fun b7 =>  ?_
  refine AL 7 AB <| ?_
  first | refine IW (AD.FQ (b := b7) 1 1 rfl AF) ?_ | refine IW (AD.trans (AD.perm (List.Perm.swap _ _ _)) (AD.FQ (b := b7) 1 1 rfl AF)) ?_
  refine BC rfl (BT (A := some ⟨b7, 0, none⟩) (news := (DK a).map AU) rfl rfl (BB.G1 (A := some ⟨q10, 0, none⟩) (fun _ => rfl)) (by simp [DK]) (EL _) AF AF) rfl (fun q => ?_)
  rw [hF1]
  refine AE 8 rfl (DH rfl) rfl <| BY AB <| ?_
  refine DF hK1 (q) BD BL
 refine zt <| zg <| zm rfl <| zf rfl <| zl rfl rfl <| ?_
 refine CQ (σ := Nat) Tryz.call162 rfl rfl (fun w1 => zu fun D' _ _ _ => TO D' w1 b hb) ?_
 intro q15
 try rw [List.nil_append]
 refine AV (BT (A := q.1) (news := (DK b).map AU) rfl rfl (BB.G1 (A := some ⟨q15, 0, none⟩) (fun _ => rfl)) (by simp [DK]) (EL _) AF AF) rfl rfl rfl (fun q2 => ?_)
 rw [hF2]
 refine zs rfl <| zn <| zg <| zm rfl <| zf rfl <| zl rfl rfl <| zv BN <| ?_
 refine AZ (JT (m := ((xs.length / 256 : Nat) : Int)) rfl rfl AF (OY _ 8)) rfl ?_
 refine AZ (CD (m := ((xs.length / 256 : Nat) : Int)) rfl (wrap_u8 AA)) rfl ?_
 refine zf rfl <| zl rfl rfl <| zv BN <| ?_
 refine AZ (CD (m := ((xs.length % 256 : Nat) : Int)) rfl (NI _)) rfl <| AV (BS rfl rfl rfl) rfl rfl rfl fun b27 =>  ?_
 refine AV (BT (A := q2.1) (news := [Value.int .u8 ((xs.length / 256 : Nat) : Int), Value.int .u8 ((xs.length % 256 : Nat) : Int)]) rfl rfl (BB.AI (b := b27)) rfl (by rw [hl8]; exact EL _) AF AF) rfl rfl rfl (fun q3 => ?_)
 rw [hF3]
 refine zs rfl <| zn <| zg <| zm rfl <| zf rfl <| zl rfl rfl <| ?_
 refine AV (BT (A := q3.1) (news := xs.map AU) rfl rfl (BB.old HS) (by rw [List.length_map, Nat.mul_one]) (EL _) AF AA) rfl rfl rfl (fun q4 => ?_)
 rw [hF4]
 refine zs rfl <| zn <| zg <| zm rfl <| zm rfl <| AV (BS rfl rfl rfl) rfl rfl rfl fun b35 =>  ?_
 refine B2 Tryz.call163 rfl rfl (fun w1 => D6 fun D' _ hin _ => lU D' w1 _ [F4] (hin _ fun h hs ho => I2 (b := b35) hs _ ⟨[_], [], rfl, C7 (A := q4.1) hs F4 AA (DQ.2 rfl), rfl⟩ (by simp))) ?_
 refine CQ (σ := Nat) Tryz.call162 rfl rfl (fun w1 => zu fun D' _ _ _ => TO D' w1 (Sm [F4]) (hH _)) ?_
 intro q37
 try rw [List.nil_append]
 refine AV (BT (A := q4.1) (news := (DK (Sm [F4])).map AU) rfl rfl (BB.G1 (A := some ⟨q37, 0, none⟩) (fun _ => rfl)) (by simp [DK]) (EL _) AF AA) rfl rfl rfl (fun q5 => ?_)
 refine zs rfl <| zn <| zq <| ?_
 have e1 : 5 + 4 + 2 + xs.length + 4 = 15 + xs.length := by omega
 have e2 : F4.map AU ++ (DK (Sm [F4])).map AU = (HN k a b xs).map AU := by rw [HN, ← hpre, List.map_append]
 rw [e1, e2]
 exact zz rfl rfl fun w' H' => ⟨q5, rfl, H'.AK Z8⟩
set_option maxHeartbeats 1000000 in
theorem qY (k a b : Nat) (v : Value) (xs : List UInt8) (hk : k < 256) (ha : a < 4294967296) (hb : b < 4294967296) (hx : xs.length ≤ 4000) (HA : Old D w (AX.rep xs [v])) :
  Calls Tryz.prog 126 #[.agg #[.int .i64 k, .int .u32 a, .int .u32 b, v]] w fun e w' => ∃ q : Option Addr × Nat, e = .returned (.tuple #[.slice q.1 ((15 + xs.length + 62) / 63) q.2, .int .i64 0]) ∧ AH D w w' [row q.1 61 64 ((15 + xs.length + 62) / 63) q.2 ((JE (HN k a b xs)).flatMap BI)] := by
 obtain ⟨Ax, capx, rfl, hc1, hc2, HS⟩ := HA.IG
 obtain ⟨F, hF⟩ : ∃ F, F = HN k a b xs := ⟨_, rfl⟩
 have hFl : F.length = 15 + xs.length := by rw [hF]; exact LY _ _ _ _
 have hS : JE F = GO F ((15 + xs.length + 62) / 63) := by rw [← hFl]; rfl
 rw [← hF, hS]
 obtain ⟨n, hn⟩ : ∃ n, n = 15 + xs.length := ⟨_, rfl⟩
 refine BZ (vs := [.agg #[.int .i64 k, .int .u32 a, .int .u32 b, .slice Ax xs.length capx]]) Tryz.func126 rfl _ Tryz.ntmps126 rfl (AH.start D w) ?_
 simp only [BX, Nat.zero_add]
 refine zg <| AV (EE rfl rfl) rfl rfl rfl fun b1 =>  ?_
 refine zs rfl <| zs rfl <| zn <| AG <| AG <| AR <| zf rfl <| zl rfl rfl <| zv (B7 rfl rfl) <| zm rfl <| ?_
 refine F0 (t := 11) rfl (AA) ?_
 refine AJ rfl rfl <| zf rfl <| AJ rfl rfl <| zl rfl rfl <| AJ rfl rfl <| zv (DV rfl rfl) <| zv (A8 rfl rfl) <| zn <| ?_
 refine CP rfl (AA) ?_
 refine zk <| AG <| zg <| zf rfl <| ?_
 refine zl rfl rfl <| zv BN <| ?_
 refine zv (DV rfl rfl) <| zn <| CP rfl (AA) ?_
 refine zk <| zg <| zv DY <| ?_
 refine CQ (σ := Option Addr × Nat) Tryz.call150 rfl rfl (fun w1 => zu fun D' hold _ _ => jF D' w1 k a b _ xs hk ha hb hx (hold _ HA)) ?_
 rintro ⟨A, c⟩
 try rw [List.nil_append]
 rw [← hn] at hFl
 rw [← hF, ← hn]
 dsimp only
 refine HL.fact (fun w H => AH.GS A H) ?_
 rintro ⟨hrl, hnc, hcc, hA⟩
 have hA : CU A := hA (by intro h; have := congrArg List.length h; simp [hFl] at this; omega)
 refine zs rfl <| zn <| zg <| zs rfl <| zn <| AG <| zg <| zs rfl <| zn <| BK <| JA (σ := Nat × Option Addr × Nat) [4] rfl 6 (fun s => .int .i64 ((63 * s.1 : Nat) : Int)) 5 (fun s => .slice s.2.1 s.1 s.2.2) (fun s => [row s.2.1 61 64 s.1 s.2.2 ((GO F s.1).flatMap BI), row A 5 1 n c (F.map AU)]) (fun s => s.1 ≤ (n + 62) / 63) (fun s => (n + 62) / 63 - s.1) ((0, none, 0)) (Nat.zero_le _) rfl rfl (AD.trans (AD.EB 61 64) (show AD _ [row none 61 64 0 0 [], row A 5 1 n c (F.map AU)] from Z8)) ?_
 rintro ⟨i, qo⟩ hi K1 hK1
 dsimp only at hi ⊢
 refine AG <| zg <| zm rfl <| zm rfl <| zv BN <| ?_
 refine zv (B7 rfl rfl) <| zn <| BP rfl (fun h => ?_) (fun h => ?_)
 ·have hin : 63 * i < n := by omega
  have hi1 : i + 1 ≤ (n + 62) / 63 := by omega
  obtain ⟨m, hm⟩ : ∃ m, m = min 63 (n - 63 * i) := ⟨_, rfl⟩
  have hm63 : m ≤ 63 := by omega
  have hsn : (GO F i).flatMap BI ++ BI (GU F i) = (GO F (i + 1)).flatMap BI := by rw [V2]; simp
  refine zk <| AG <| BK <| zg <| AV (B9) rfl rfl rfl fun b7 =>
   zn <| zg <| zv (KL rfl rfl rfl rfl rfl) <| ?_
  refine A6 (CI (.int .u8 119 :: List.replicate 63 (.int .u8 0)) rfl rfl (by simp) rfl rfl) rfl rfl ?_
  refine zn <| AG <| zg <| zm rfl <| zv (CO rfl rfl) <| zn <| ?_
  by_cases hi0 : i = 0
  ·have hcp : FH (.int .u8 87 :: List.replicate 63 (.int .u8 0)) (0 + 1 * 1) ((piece F i).map AU) = BI (GU F i) := by rw [TM, TG, ME, if_pos hi0]; rfl
   refine GR rfl (AA) ?_
   refine AR <| zv (KL rfl rfl rfl rfl rfl) <| A6 (CI (.int .u8 87 :: List.replicate 63 (.int .u8 0)) rfl rfl (by simp) rfl rfl) rfl rfl ?_
   refine zn <| AG <| E2 9 mixed AB ?_
   refine AT (NA rfl 1 64 (.inr ⟨_, _, rfl, rfl⟩) (.inl ⟨rfl, rfl⟩) AF AF AF) rfl ?_
   refine AT (AO rfl) rfl <| AT (AO rfl) rfl <| AT (AO rfl) rfl <| ?_
   refine AT (BM (m := ((63 * i + 63 : Nat) : Int)) rfl rfl ((wrap_i64 AA).trans AA)) rfl ?_
   refine AT (AO rfl) rfl <| AT BN rfl <| ?_
   refine AT (XN (m := ((63 * i + m : Nat) : Int)) rfl rfl (by split <;> omega)) rfl ?_
   refine AT (FE rfl (63 * i) (63 * i + m) (.inr ⟨_, _, rfl, rfl⟩) (.inr ⟨_, _, rfl, rfl⟩) AA AA) rfl ?_
   refine EV <| ?_
   refine EN (JR (news := (piece F i).map AU) rfl rfl (BB.HJ (A := A) hA (63 * i) m AA hrl hnc (V4 F i m (by rw [hFl]; exact hm))) (by rw [List.length_map, ON, hFl, ← hm, Nat.mul_one]; omega) AA U7 (EL _)) rfl rfl rfl ?_
   rw [hcp]
   refine zn <| AR <| zm rfl <| AZ (FV rfl (DU (GU F i))) rfl <| AV (HG (res := BI (GU F i)) rfl rfl (OS _)) rfl rfl rfl (fun b44 => ?_)
   refine AV (BT (A := qo.1) (news := BI (GU F i)) rfl rfl (BB.AI (b := b44)) O8 (IF _) AF AA) rfl rfl rfl (fun q2 => ?_)
   rw [hsn]
   refine zs rfl <| AS <| zb <| zt <| AR <| zm rfl <| zv (BM rfl rfl BO) <| ?_
   refine zs rfl <| AS <| B5 hK1 ((i + 1, q2)) (hi1) AA BD BL
  have hcp : FH (.int .u8 119 :: List.replicate 63 (.int .u8 0)) (0 + 1 * 1) ((piece F i).map AU) = BI (GU F i) := by rw [TM, TG, ME, if_neg hi0]; rfl
  refine CP rfl (AA) ?_
  refine zk <| AG <| E2 9 mixed AB ?_
  refine AT (NA rfl 1 64 (.inr ⟨_, _, rfl, rfl⟩) (.inl ⟨rfl, rfl⟩) AF AF AF) rfl ?_
  refine AT (AO rfl) rfl <| AT (AO rfl) rfl <| AT (AO rfl) rfl <| ?_
  refine AT (BM (m := ((63 * i + 63 : Nat) : Int)) rfl rfl ((wrap_i64 AA).trans AA)) rfl ?_
  refine AT (AO rfl) rfl <| AT BN rfl <| ?_
  refine AT (XN (m := ((63 * i + m : Nat) : Int)) rfl rfl (by split <;> omega)) rfl ?_
  refine AT (FE rfl (63 * i) (63 * i + m) (.inr ⟨_, _, rfl, rfl⟩) (.inr ⟨_, _, rfl, rfl⟩) AA AA) rfl ?_
  refine EV <| ?_
  refine EN (JR (news := (piece F i).map AU) rfl rfl (BB.HJ (A := A) hA (63 * i) m AA hrl hnc (V4 F i m (by rw [hFl]; exact hm))) (by rw [List.length_map, ON, hFl, ← hm, Nat.mul_one]; omega) AA U7 (EL _)) rfl rfl rfl ?_
  rw [hcp]
  refine zn <| AR <| zm rfl <| AZ (FV rfl (DU (GU F i))) rfl <| AV (HG (res := BI (GU F i)) rfl rfl (OS _)) rfl rfl rfl (fun b44 => ?_)
  refine AV (BT (A := qo.1) (news := BI (GU F i)) rfl rfl (BB.AI (b := b44)) O8 (IF _) AF AA) rfl rfl rfl (fun q2 => ?_)
  rw [hsn]
  refine zs rfl <| AS <| zb <| zt <| AR <| zm rfl <| zv (BM rfl rfl BO) <| ?_
  refine zs rfl <| AS <| B5 hK1 ((i + 1, q2)) (hi1) AA BD BL
 obtain rfl : i = (n + 62) / 63 := by omega
 refine CF <| ze <| ze <| CE <| zt <| AG <| AR <| zm rfl <| zs rfl <| zs rfl <| zn <| zq <| ?_
 exact E5 (.inr rfl) rfl rfl rfl fun w' H' => ⟨qo, rfl, H'.AK Z8⟩
def IX : List BA → Nat
 | [] => 0
 | s :: r => if s[0] = 119 then IX r + 1 else 0
theorem fE : ∀ r : List BA, IX r ≤ r.length
 | [] => Nat.le_refl _
 | s :: r => by
  unfold IX
  have := fE r
  rw [List.length_cons]
  split <;> omega
theorem dH : ∀ (r : List BA) (j : Nat) (h : j < r.length), j < IX r → r[j][0] = 119
 | [], j, h, _ => by simp at h
 | s :: r, 0, h, hg => by
  unfold IX at hg
  split at hg
  ·rename_i hs; exact hs
  ·omega
 | s :: r, j + 1, h, hg => by
  unfold IX at hg
  split at hg
  ·exact dH r j (by simpa using h) AA
  ·omega
theorem bM : ∀ (r : List BA) (h : IX r < r.length), r[IX r][0] ≠ 119
 | [], h => by simp at h
 | s :: r, h => by
  by_cases hs : s[0] = 119
  ·have e : IX (s :: r) = IX r + 1 := by simp [IX, hs]
   have h2 : IX r < r.length := by rw [e, List.length_cons] at h; omega
   have := bM r h2
   have e2 : (s :: r)[IX (s :: r)]'h = r[IX r] := by simp only [e, List.getElem_cons_succ]
   rw [e2]; exact this
  ·have e : IX (s :: r) = 0 := by simp [IX, hs]
   have e2 : (s :: r)[IX (s :: r)]'h = s := by simp only [e, List.getElem_cons_zero]
   rw [e2]; exact hs
theorem fA : ∀ (k : Nat) (r : List BA), (∀ j, j < k → ∃ h : j < r.length, r[j][0] = 119) → k ≤ IX r
 | 0, _, _ => Nat.zero_le _
 | k + 1, [], h => by obtain ⟨h1, _⟩ := h 0 AA; simp at h1
 | k + 1, s :: r, h => by
  obtain ⟨_, h0⟩ := h 0 AA
  have h0 : s[0] = 119 := h0
  have := fA k r fun j hj => by
   obtain ⟨h1, h2⟩ := h (j + 1) AA
   exact ⟨by simpa using h1, by simpa using h2⟩
  unfold IX
  rw [if_pos h0]; omega
theorem oV (e : EO) (i : Nat) (h : i < (C1 e).length) : (C1 e)[i] = GU (HN e.1 e.2.1 e.2.2.1 e.2.2.2) i := by
 have : (C1 e)[i]? = some (GU (HN e.1 e.2.1 e.2.2.1 e.2.2.2) i) := by
  unfold C1 JE GO
  rw [List.getElem?_map, List.getElem?_range (by simpa [C1, JE, GO] using h)]; rfl
 rw [List.getElem?_eq_getElem h] at this
 simpa using this
theorem pW {s : BA} {r : List BA} {x : EO} {n : Nat} (hn : 1 ≤ n) (hl : n ≤ (s :: r).length) (h : C1 x = (s :: r).take n) : n ≤ 1 + IX r := by
 have := fA (n - 1) r fun j hj => by
  have hjr : j < r.length := by rw [List.length_cons] at hl; omega
  have hle : j + 1 < (C1 x).length := by rw [h, List.length_take]; omega
  have h1 := oV x (j + 1) hle
  have h2 : (C1 x)[j + 1] = r[j] := by
   have : (C1 x)[j + 1]? = some r[j] := by
    rw [h, List.getElem?_take_of_lt AA, List.getElem?_cons_succ, List.getElem?_eq_getElem hjr]
   rw [List.getElem?_eq_getElem hle] at this
   simpa using this
  refine ⟨hjr, ?_⟩
  rw [← h2, h1, ZL]
  unfold ME; rw [if_neg AA]
 omega
theorem nS (S : List BA) (m k : Nat) (h : k ≤ m) (hm : m ≤ S.length) : GJ (S.take k) = (GJ (S.take m)).take (63 * k) := by
 have e : S.take m = S.take k ++ (S.take m).drop k := by
  rw [show S.take k = (S.take m).take k by rw [List.take_take, Nat.min_eq_left h], List.take_append_drop]
 have hl : (GJ (S.take k)).length = 63 * k := by rw [VS, List.length_take, Nat.min_eq_left AA]
 rw [e]
 unfold GJ at hl ⊢
 rw [List.flatMap_append, List.take_left' hl]
theorem l5 (s : BA) (r : List BA) (k lo m : Nat) (hk : 1 ≤ k) (h : lo + m ≤ 63) : ((GJ ((s :: r).take k)).drop lo).take m = (s.toList.drop (lo + 1)).take m := by
 obtain ⟨k', rfl⟩ : ∃ k', k = k' + 1 := ⟨k - 1, by omega⟩
 rw [List.take_succ_cons]
 unfold GJ
 have hl : (s.toList.drop 1).length = 63 := by simp
 rw [List.flatMap_cons, List.drop_append_of_le_length AA, List.take_append_of_le_length MG, List.drop_drop]
 congr 2
 omega
end Go.Proofs.YtjlolpmmpafjeaaGreat
