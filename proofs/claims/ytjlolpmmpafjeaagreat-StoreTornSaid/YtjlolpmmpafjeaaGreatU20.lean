import Derived.Test.YtjlolpmmpafjeaaGreatU19
set_option linter.unusedVariables false
set_option linter.unusedSimpArgs false
namespace Go.Proofs.YtjlolpmmpafjeaaGreat
open CN
theorem kD (D : Nat → Prop) (w : World) (c : CA) (vp vv vs : Value) (HC0 : ER D w c vp vv vs) :
  Calls Tryz.prog 67 #[.agg (C9 c vp vv vs).toArray] w fun e w' => ∃ q : DA, e = .returned (.agg (B3 c q).toArray) ∧ AH D w w' (C6 c q) := by
 have hlp := HC0.lp
 have hlv := HC0.lv
 have hls := HC0.ls
 obtain ⟨Ap, cp, hvp, _, _, HSp, _⟩ := HC0.p.EG
 obtain ⟨Av, cv, hvv, _, _, HSv, _⟩ := HC0.v.EG
 obtain ⟨As, cs, hvs, _, _, HSs, _⟩ := HC0.s.EG
 have HSp : CS D w Ap (c.2.2.2.1.flatMap CJ) := HSp
 have HSv : CS D w Av (c.2.2.2.2.1.flatMap BJ) := HSv
 have HSs : CS D w As (c.2.2.2.2.2.flatMap BW) := HSs
 subst hvp; subst hvv; subst hvs
 refine BZ (vs := [.agg (C9 c (.slice Ap c.2.2.2.1.length cp) (.slice Av c.2.2.2.2.1.length cv) (.slice As c.2.2.2.2.2.length cs)).toArray]) Tryz.func67 rfl _ Tryz.ntmps67 rfl (AH.start D w) ?_
 simp only [BX, Nat.zero_add]
 refine zg <| AV (EE rfl rfl) rfl rfl rfl fun b1 =>  ?_
 refine AV (B9) rfl rfl rfl fun b2 => 
  zn <| zg <| AV (BS rfl rfl rfl) rfl rfl rfl fun b3 =>  ?_
 refine HL.AK (AD.FQ (b := b3) 3 0 rfl AF) ?_
 refine zf rfl <| zl rfl rfl <| ?_
 refine AV (BT (A := some ⟨b3, 0, none⟩) (news := c.2.2.2.1.flatMap CJ) rfl rfl (BB.old HSp) (FU (f := CJ) (sz := 3) (fun _ => rfl) _) (GH bE _) AF AA) rfl rfl rfl (fun q1 => ?_)
 rw [List.nil_append, Nat.zero_add]
 refine zf rfl <| ?_
 refine A6 (CI (C9 c (.slice q1.1 c.2.2.2.1.length q1.2) (.slice Av c.2.2.2.2.1.length cv) (.slice As c.2.2.2.2.2.length cs)) rfl rfl (by simp) rfl rfl) rfl rfl ?_
 refine zn <| zg <| AV (BS rfl rfl rfl) rfl rfl rfl fun b8 =>  ?_
 refine HL.AK (AD.FQ (b := b8) 3 0 rfl AF) ?_
 refine zf rfl <| zl rfl rfl <| ?_
 refine AV (BT (A := some ⟨b8, 0, none⟩) (news := c.2.2.2.2.1.flatMap BJ) rfl rfl (BB.old HSv) (FU (f := BJ) (sz := 3) (fun _ => rfl) _) (GH GF _) AF AA) rfl rfl rfl (fun q2 => ?_)
 rw [List.nil_append, Nat.zero_add]
 refine zf rfl <| ?_
 refine A6 (CI (C9 c (.slice q1.1 c.2.2.2.1.length q1.2) (.slice q2.1 c.2.2.2.2.1.length q2.2) (.slice As c.2.2.2.2.2.length cs)) rfl rfl (by simp) rfl rfl) rfl rfl ?_
 refine zn <| zg <| AV (BS rfl rfl rfl) rfl rfl rfl fun b13 =>  ?_
 refine HL.AK (AD.FQ (b := b13) 3 0 rfl AF) ?_
 refine zf rfl <| zl rfl rfl <| ?_
 refine AV (BT (A := some ⟨b13, 0, none⟩) (news := c.2.2.2.2.2.flatMap BW) rfl rfl (BB.old HSs) (FU (f := BW) (sz := 3) (fun _ => rfl) _) (GH JO _) AF AA) rfl rfl rfl (fun q3 => ?_)
 rw [List.nil_append, Nat.zero_add]
 refine zf rfl <| ?_
 refine A6 (CI (B3 c (q1, q2, q3)) rfl rfl (by simp) rfl rfl) rfl rfl ?_
 refine zn <| zg <| zv DY <| ?_
 refine A6 (DT rfl rfl rfl rfl rfl rfl) rfl rfl <| zn <| zq <| ?_
 exact IU (.inr rfl) rfl rfl (by simp) fun w' H' => ⟨(q1, q2, q3), rfl, H'.AK Z8⟩
abbrev sF (n : Int) := { r : DA × CA × Int // (¬ (1 ≤ n ∧ n ≤ 8) ∧ r.2 = (FZ, 1)) ∨ (1 ≤ n ∧ n ≤ 8 ∧ r.2 = (E0 n.toNat, 0)) }
theorem kX (D : Nat → Prop) (w : World) (n : Int) (hn : DO n) :
  Calls Tryz.prog 29 #[.int .i64 n] w fun e w' => ∃ r : sF n, e = .returned (.tuple #[.agg (B3 r.1.2.1 r.1.1).toArray, .int .i64 r.1.2.2]) ∧ AH D w w' (C6 r.1.2.1 r.1.1) := by
 unfold DO at hn
 refine BZ (vs := [.int .i64 n]) Tryz.func29 rfl _ Tryz.ntmps29 rfl (AH.start D w) ?_
 simp only [BX, Nat.zero_add]
 refine zg <| AV (B9) rfl rfl rfl fun b2 =>
  zs rfl <| zn <| ?_
 refine AG <| zg <| zm rfl <| zv (B7 rfl rfl) <| zm rfl <| DB (t := 9) rfl (fun h1 => ?_) (fun h1 => ?_)
 ·refine zo rfl rfl <| zo rfl rfl <| zv (BF rfl rfl) <| zn <| DD rfl <| zg <| zv (CH rfl rfl) <| ?_
  refine A6 (DT rfl rfl rfl rfl rfl rfl) rfl rfl <| zs rfl <| zn <| zq <| zr <| ?_
  exact ID (.inr rfl) rfl rfl (by simp) rfl fun w' H' => ⟨⟨(q0, FZ, 1), .inl ⟨by omega, rfl⟩⟩, rfl, H'.AK (AD.trans (AD.LC _) AD.KM)⟩
 refine AJ rfl rfl <| zm rfl <| AJ rfl rfl <| zv (DV rfl rfl) <| zv (A8 rfl rfl) <| zn <| BP rfl (fun h2 => ?_) (fun h2 => ?_)
 ·refine zg <| zv (CH rfl rfl) <| ?_
  refine A6 (DT rfl rfl rfl rfl rfl rfl) rfl rfl <| zs rfl <| zn <| zq <| zr <| ?_
  exact ID (.inr rfl) rfl rfl (by simp) rfl fun w' H' => ⟨⟨(q0, FZ, 1), .inl ⟨by omega, rfl⟩⟩, rfl, H'.AK (AD.trans (AD.LC _) AD.KM)⟩
 obtain ⟨m, hm⟩ : ∃ m : Nat, n = (m : Int) := ⟨n.toNat, by omega⟩
 subst hm
 refine zk <| zg <| zv (CH rfl rfl) <| ?_
 refine AV (B9) rfl rfl rfl fun b4 => 
  A6 (DT rfl rfl rfl rfl rfl rfl) rfl rfl <| zn <| zg <| ?_
 refine zv (CH rfl rfl) <| ?_
 refine AV (B9) rfl rfl rfl fun b5 => 
  A6 (DT rfl rfl rfl rfl rfl rfl) rfl rfl <| zn <| AG <| AG <| ?_
 refine AR <| zs rfl <| zn <| BK <| GL (σ := Nat × Option Addr × Nat) [0, 2, 4, 5] rfl 6 (fun s => .int .i64 (s.1 : Int)) (fun s => [AI b4 49 [.int .i64 32768, .int .i64 20, .int .i64 15, .slice s.2.1 s.1 s.2.2, .slice none 0 0, .slice none 0 0], row s.2.1 83 3 s.1 s.2.2 ((List.replicate s.1 ((true, 20000, 1) : GI)).flatMap CJ), AI b5 147 [.int .i64 1, .int .u8 ((2 ^ s.1 - 1 : Nat) : Int), .int .u8 0], AI b2 49 [.int .i64 0, .int .i64 0, .int .i64 0, .slice none 0 0, .slice none 0 0, .slice none 0 0]]) (fun s => s.1 ≤ m) (fun s => m - s.1) ((0, none, 0)) (Nat.zero_le _) rfl (AD.trans (b := [AI b4 49 [.int .i64 32768, .int .i64 20, .int .i64 15, .slice none 0 0, .slice none 0 0, .slice none 0 0], row none 83 3 0 0 [], AI b5 147 [.int .i64 1, .int .u8 0, .int .u8 0], AI b2 49 [.int .i64 0, .int .i64 0, .int .i64 0, .slice none 0 0, .slice none 0 0, .slice none 0 0]]) (AD.trans (AD.EB 83 3) Z8) (AD.refl _)) ?_
 rintro ⟨p, A, c⟩ hp K1 hK1
 dsimp only at hp ⊢
 refine AG <| zg <| zm rfl <| zm rfl <| zv (B7 rfl rfl) <| zn <| BP rfl (fun h => ?_) (fun h => ?_)
 ·have hlt : p < m := by omega
  obtain ⟨k1, k2⟩ := gF ⟨p, by omega⟩
  have hrep : (List.replicate p ((true, 20000, 1) : GI)).flatMap CJ ++ CJ (true, 20000, 1) = (List.replicate (p + 1) ((true, 20000, 1) : GI)).flatMap CJ := by
   rw [List.replicate_succ', List.flatMap_append, List.flatMap_singleton]
  refine zk <| AG <| BK <| zg <| zf rfl <| zl rfl rfl <| zv (CH rfl rfl) <| ?_
  refine AV (BS rfl rfl rfl) rfl rfl rfl fun b24 =>  ?_
  refine AV (BT (A := A) (news := CJ (true, 20000, 1)) rfl rfl (BB.AI (b := b24)) rfl CL AF AA) rfl rfl rfl (fun q2 => ?_)
  rw [hrep]
  refine zf rfl <| ?_
  refine A6 (CI [.int .i64 32768, .int .i64 20, .int .i64 15, .slice q2.1 (p + 1) q2.2, .slice none 0 0, .slice none 0 0] rfl rfl (by simp) rfl rfl) rfl rfl ?_
  refine zn <| AR <| zf rfl <| zl rfl rfl <| zm rfl <| ?_
  refine zv (CD rfl J2) <| ?_
  refine AZ (PX (m := ((2 ^ p : Nat) : Int)) rfl rfl AA k1) rfl ?_
  refine AZ (SZ (m := ((2 ^ (p + 1) - 1 : Nat) : Int)) rfl rfl k2) rfl <| zf rfl <| ?_
  refine A6 (CI [.int .i64 1, .int .u8 ((2 ^ (p + 1) - 1 : Nat) : Int), .int .u8 0] rfl rfl (by simp) rfl rfl) rfl rfl ?_
  refine AS <| zb <| zt <| AR <| zm rfl <| zv (BM rfl rfl BO) <| ?_
  refine zs rfl <| AS <| B5 hK1 ((p + 1, q2)) (hlt) (by show m - (p + 1) < m - p; omega) BD BL
 have hpn : p = m := by omega
 subst hpn
 have hlt : 2 ^ p ≤ 2 ^ 8 := Nat.pow_le_pow_right AF AA
 have hu : (E0 p).2.2.2.2.1.flatMap BJ = [.int .i64 1, .int .u8 ((2 ^ p - 1 : Nat) : Int), .int .u8 0] := by
  show BJ (1, UInt8.ofNat (2 ^ p - 1), 0) ++ [] = _
  rw [List.append_nil]
  show [Value.int .i64 1, AU (UInt8.ofNat (2 ^ p - 1)), AU 0] = _
  rw [NU, Nat.mod_eq_of_lt AA]; rfl
 have hl : (E0 p).2.2.2.1.length = p := List.length_replicate
 refine CF <| ze <| ze <| CE <| zt <| AG <| AR <| zv DY <| ?_
 refine AV (BS rfl rfl rfl) rfl rfl rfl fun b35 => 
  zf rfl <| A6 (DN rfl rfl rfl rfl rfl) rfl rfl <| zn <| AG <| ?_
 refine AR <| zv DY <| ?_
 refine A6 (DT rfl rfl rfl rfl rfl rfl) rfl rfl <| zs rfl <| zn <| zq <| ?_
 exact ID (.inr rfl) rfl rfl (by simp) rfl fun w' H' => ⟨⟨(((A, c), (some ⟨b35, 0, none⟩, 1), (none, 0)), E0 p, 0), .inr ⟨by omega, by omega, rfl⟩⟩, by dsimp only [B3]; rw [hl]; rfl, H'.AK (by dsimp only [C6]; rw [hl, hu]; exact (AD.trans (b := [row none 149 3 0 0 [], AI b35 147 [.int .i64 1, .int .u8 ((2 ^ p - 1 : Nat) : Int), .int .u8 0], row A 83 3 p c ((E0 p).2.2.2.1.flatMap CJ)]) (AD.trans (AD.EB 149 3) (show AD _ [row none 149 3 0 0 [], _, row A 83 3 p c ((List.replicate p ((true, 20000, 1) : GI)).flatMap CJ)] from Z8)) (AD.trans (b := [row (some ⟨b35, 0, none⟩) 147 3 1 1 [.int .i64 1, .int .u8 ((2 ^ p - 1 : Nat) : Int), .int .u8 0], row none 149 3 0 0 [], row A 83 3 p c ((E0 p).2.2.2.1.flatMap CJ)]) (AD.trans (b := [AI b35 147 [.int .i64 1, .int .u8 ((2 ^ p - 1 : Nat) : Int), .int .u8 0], row none 149 3 0 0 [], row A 83 3 p c ((E0 p).2.2.2.1.flatMap CJ)]) Z8 (AD.FQ 3 1 rfl AF)) (show AD _ [row A 83 3 p c ((E0 p).2.2.2.1.flatMap CJ), row (some ⟨b35, 0, none⟩) 147 3 1 1 [.int .i64 1, .int .u8 ((2 ^ p - 1 : Nat) : Int), .int .u8 0], row none 149 3 0 0 []] from Z8))))⟩
end Go.Proofs.YtjlolpmmpafjeaaGreat
