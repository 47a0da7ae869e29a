import Derived.Test.YtjlolpmmpafjeaaGreatV20
set_option linter.unusedVariables false
set_option linter.unusedSimpArgs false
namespace Go.Proofs.YtjlolpmmpafjeaaGreat
open Slk
abbrev zeroV : List Value := [.int .i64 0, .int .i64 0, .int .i64 0, .slice none 0 0, .slice none 0 0, .slice none 0 0]
theorem REdit_spec (D : Nat → Prop) (w : World) (c : ConfC) (vp vv vs v1 : Value) (l : List EditC) (hll : l.length ≤ 1000000) (HC0 : ConfOld D w c vp vv vs) (HE : Old D w (Rep.rep l [v1])) :
  Calls Tryz.prog 30 #[.agg (cfgV c vp vv vs).toArray, v1] w fun e w' => ∃ r : EditT c l, e = .returned (.tuple #[.agg (cfgA r.1.2.1 r.1.1).toArray, .int .i64 r.1.2.2]) ∧ Own D w w' (cfgR r.1.2.1 r.1.1) := by
 obtain ⟨Ae, ce, rfl, hce1, hce2, HSe, heok⟩ := HE.openF
 have HSe : OldS D w Ae (l.flatMap editV) := HSe
 have hokc := HC0.okC
 have h1p : ∃ A n cap, vp = .slice A n cap := by obtain ⟨A, cap, rfl, _⟩ := HC0.p.openF; exact ⟨_, _, _, rfl⟩
 have h1v : ∃ A n cap, vv = .slice A n cap := by obtain ⟨A, cap, rfl, _⟩ := HC0.v.openF; exact ⟨_, _, _, rfl⟩
 have h1s : ∃ A n cap, vs = .slice A n cap := by obtain ⟨A, cap, rfl, _⟩ := HC0.s.openF; exact ⟨_, _, _, rfl⟩
 obtain ⟨Ap', np', cp', hvp⟩ := h1p
 obtain ⟨Av', nv', cv', hvv⟩ := h1v
 obtain ⟨As', ns', cs', hvs⟩ := h1s
 refine hc_enter (vs := [.agg (cfgV c vp vv vs).toArray, .slice Ae l.length ce]) Tryz.func30 rfl _ Tryz.ntmps30 rfl (Own.start D w) ?_
 simp only [argSlots, Nat.zero_add]
 refine zg <| hl_new (on_boxN rfl rfl) rfl rfl rfl fun b2 =>  ?_
 refine hl_new (on_alloc) rfl rfl rfl fun b4 => 
  zs rfl <| zn <| hc_seq <| hc_seq <| ?_
 refine hc_region <| zv Z17 <| ?_
 refine hl_call (σ := BIff (goodP c)) Tryz.call66 rfl rfl (fun w1 => zu fun D' hold _ _ => RGood_spec D' w1 c vp vv vs (HC0.hold hold)) ?_
 intro r1
 try rw [List.nil_append]
 refine zv Z26 <| ?_
 refine zn <| hc_cond_bool rfl (fun a1 => ?_) (fun a1 => ?_)
 ·have hno : ¬ goodP c := fun h => by have := r1.2.2 h; rw [this] at a1; cases a1
  have hR : EditR c l (zeroC, 14) := .inl ⟨hno, rfl⟩
  refine zg <| zv (ov_buildSN rfl rfl) <| ?_
  refine hl_u0 (on_storeW (vs := zeroV) rfl rfl rfl (by simp) Z49) rfl rfl ?_
  refine zs rfl <| zn <| zq <| zr <| ?_
  exact results_ct (.inr rfl) rfl rfl (by simp) rfl fun w' H' => ⟨⟨(q0, zeroC, 14), hR⟩, rfl, H'.ent (Ent.trans (Ent.cfgR0 _) Ent.append_l)⟩
 have hg : goodP c := r1.2.1 (by simpa using a1)
 have hm0 : Mid c 0 := hg.mid hokc.i1 hokc.i2 hokc.i3 hokc.p hokc.v hokc.s
 refine zk <| hc_seq <| zg <| zm rfl <| zv Z25 <| ?_
 refine zv (ov_gtr rfl rfl) <| zn <| hc_cond rfl (fun a2 => ?_) (fun a2 => ?_)
 ·have hR : EditR c l (zeroC, 3) := .inr (.inl ⟨hg, by omega, rfl⟩)
  refine zg <| zv (ov_buildSN rfl rfl) <| ?_
  refine hl_u0 (on_storeW (vs := zeroV) rfl rfl rfl (by simp) Z49) rfl rfl ?_
  refine zs rfl <| zn <| zq <| zr <| ?_
  exact results_ct (.inr rfl) rfl rfl (by simp) rfl fun w' H' => ⟨⟨(q0, zeroC, 3), hR⟩, rfl, H'.ent (Ent.trans (Ent.cfgR0 _) Ent.append_l)⟩
 have hl32 : l.length ≤ 32 := by omega
 refine zk <| zg <| zv Z17 <| ?_
 refine hl_call (σ := Three) Tryz.call67 rfl rfl (fun w1 => zu fun D' hold _ _ => RCopy_spec D' w1 c vp vv vs (HC0.hold hold)) ?_
 intro q
 try rw [List.nil_append]
 refine hl_new (on_alloc) rfl rfl rfl fun b6 =>  ?_
 refine hl_u0 (on_storeW (vs := cfgA c q) rfl rfl rfl (by simp) Z49) rfl rfl ?_
 refine zn <| hc_seq <| zg <| zs rfl <| zn <| hc_block <| hc_loopK1 (σ := Nat × ConfC) [1, 4, 6] rfl 7 (fun s => .int .i64 (s.1 : Int)) (fun s => [cfgO b6 s.2, blk b4 49 zeroV]) (fun s => (s.1 ≤ l.length ∧ Mid s.2 s.1) ∧ foldC c (l.take s.1) = (s.2, 0)) (fun s => l.length - s.1) ((0, c)) (⟨⟨Nat.zero_le _, hm0⟩, rfl⟩) rfl (Ent.trans (b := cfgQ b6 c q ++ [blk b4 49 zeroV]) Z8 (cfgO_mk q)) ?_
 rintro ⟨i, ci⟩ hj_ K1 hK1
 dsimp only at hj_ ⊢
 obtain ⟨⟨hi, hm⟩, hf⟩ := hj_
 refine hc_seq <| zg <| zm rfl <| zm rfl <| zv Z25 <| ?_
 refine zv (ov_lss rfl rfl) <| zn <| hc_cond rfl (fun h => ?_) (fun h => ?_)
 ·have hlt : i < l.length := by omega
  obtain ⟨hA, _⟩ := OldS.cells_flat (D := D) (w0 := w) (f := editV) (sz := 7) (fun _ => rfl) Z63 HSe hlt []
  have hc := fun l' => (OldS.cells_flat (D := D) (w0 := w) (f := editV) (sz := 7) (fun _ => rfl) Z63 HSe hlt l').2
  have hox := heok l[i] (List.getElem_mem hlt)
  have hmx := hm.one hox
  have hsn := foldC_snoc hlt hf
  have hst : (oneC ci l[i]).2 ≠ 0 → foldC c l = oneC ci l[i] := foldC_stop hlt hf
  generalize l[i] = x at *
  refine zk <| hc_seq <| hc_block <| zg <| zm rfl <| zm rfl <| hl_v (ov_idxS rfl hA rfl i rfl hlt) rfl <| hl_v (ov_loadG (cs := editV x) rfl rfl (hc _)) rfl <| hl_c Tryz.call68 rfl rfl (fun w1 => zp (cfgO b6 ci) fun D' _ _ H2 => rone_spec D' w1 b6 ci x i Z64 hm hox H2) ?_
  refine zs rfl <| zn <| zg <| zm rfl <| zv (ov_neq rfl rfl) <| zn <| hc_cond rfl (fun h2 => ?_) (fun h2 => ?_)
  ·have hfc := hst h2
   have hR : EditR c l (zeroC, (oneC ci x).2) := .inr (.inr (.inl ⟨hg, hl32, by rw [hfc]; exact h2, by rw [hfc]⟩))
   refine zg <| zv (ov_buildSN rfl rfl) <| ?_
   refine zm rfl <| hl_u0 (on_storeW (vs := zeroV) rfl rfl rfl (by simp) Z49) rfl rfl ?_
   refine zs rfl <| zn <| zq <| hx_block_ret <| zr <| zr <| hx_block_ret <| zr <| ?_
   exact results_ct (.inr rfl) rfl rfl (by simp) rfl fun w' H' => ⟨⟨(q0, zeroC, (oneC ci x).2), hR⟩, rfl, H'.ent (Ent.trans (Ent.cfgR0 _) Ent.append_l)⟩
  have h0 : (oneC ci x).2 = 0 := Classical.not_not.1 h2
  have hfn : foldC c (l.take (i + 1)) = ((oneC ci x).1, 0) := by rw [hsn]; exact Prod.ext rfl h0
  refine hc_skip <| zb <| zt <| hc_region <| zm rfl <| zv (ov_add rfl rfl Z28) <| ?_
  refine zs rfl <| hl_nil <| hx_next hK1 ((i + 1, (oneC ci x).1)) (⟨⟨hlt, hmx⟩, hfn⟩) Z24 Z16 Z10
 have hie : i = l.length := by omega
 subst hie
 rw [List.take_length] at hf
 have hok2 := hm.okC Z64
 refine HC.exs ?_
 intro q2
 refine HC.ent (l' := cfgQ b6 ci q2 ++ [blk b4 49 zeroV]) (fun _ h => h) ?_
 refine hc_exit <| ze <| ze <| hx_block_out <| zt <| hc_seq <| zg <| zv Z17 <| ?_
 refine hl_call (σ := BIff (goodP ci)) Tryz.call66 rfl rfl (fun w1 => zu fun D' _ hin _ => RGood_spec D' w1 ci _ _ _ (ConfOld.rows (q := q2) hok2 hin)) ?_
 intro r2
 try rw [List.nil_append]
 refine zv Z26 <| ?_
 refine zn <| hc_cond_bool rfl (fun a3 => ?_) (fun a3 => ?_)
 ·have hno : ¬ goodP ci := fun h => by have := r2.2.2 h; rw [this] at a3; cases a3
  have hR : EditR c l (zeroC, 14) := .inr (.inr (.inr (.inl ⟨hg, hl32, by rw [hf], by rw [hf]; exact hno, rfl⟩)))
  refine zg <| zv (ov_buildSN rfl rfl) <| ?_
  refine hl_u0 (on_storeW (vs := zeroV) rfl rfl rfl (by simp) Z49) rfl rfl ?_
  refine zs rfl <| zn <| zq <| zr <| ?_
  exact results_ct (.inr rfl) rfl rfl (by simp) rfl fun w' H' => ⟨⟨(q0, zeroC, 14), hR⟩, rfl, H'.ent (Ent.trans (Ent.cfgR0 _) Ent.append_l)⟩
 have hyes : goodP ci := r2.2.1 (by simpa using a3)
 have hR : EditR c l (ci, 0) := .inr (.inr (.inr (.inr ⟨hg, hl32, by rw [hf], by rw [hf]; exact hyes, by rw [hf]⟩)))
 refine zk <| zg <| zv Z17 <| ?_
 refine hl_u0 (on_storeW (vs := cfgA ci q2) rfl rfl rfl (by simp) Z49) rfl rfl ?_
 refine zs rfl <| zn <| zq <| ?_
 exact results_ct (.inr rfl) rfl rfl (by simp) rfl fun w' H' => ⟨⟨(q2, ci, 0), hR⟩, rfl, H'.ent Z8⟩
end Go.Proofs.YtjlolpmmpafjeaaGreat
namespace Go.Proofs.YtjlolpmmpafjeaaGreat
open Slk
theorem RFirst_is (D : Nat → Prop) (w : World) (n : Nat) (h1 : 1 ≤ n) (h8 : n ≤ 8) :
  Calls Tryz.prog 29 #[.int .i64 (n : Int)] w fun e w' => ∃ q : Three, e = .returned (.tuple #[.agg (cfgA (firstC n) q).toArray, .int .i64 0]) ∧ Own D w w' (cfgR (firstC n) q) :=
 (RFirst_res D w n (inI _ ⟨by omega, by omega⟩)).mono fun e w' ⟨⟨⟨q, d, er⟩, hR⟩, he, H'⟩ => by
  rcases hR with ⟨h, _⟩ | ⟨_, _, h⟩
  ·exact absurd ⟨by omega, by omega⟩ h
  ·have h : (d, er) = (firstC ((n : Int)).toNat, 0) := h
   injection h with h1 h2
   subst h1; subst h2
   exact ⟨q, he, H'⟩
theorem REdit_is (D : Nat → Prop) (w : World) (c : ConfC) (vp vv vs v1 : Value) (l : List EditC) (d : ConfC) (er : Int) (hr : edF c l = (d, er)) (hll : l.length ≤ 1000000) (HC0 : ConfOld D w c vp vv vs) (HE : Old D w (Rep.rep l [v1])) :
  Calls Tryz.prog 30 #[.agg (cfgV c vp vv vs).toArray, v1] w fun e w' => ∃ q : Three, e = .returned (.tuple #[.agg (cfgA d q).toArray, .int .i64 er]) ∧ Own D w w' (cfgR d q) :=
 (REdit_spec D w c vp vv vs v1 l hll HC0 HE).mono fun e w' ⟨⟨⟨q, d', er'⟩, hR⟩, he, H'⟩ => by
  have h := (edF_of hR).trans hr
  injection h with h1 h2
  subst h1; subst h2
  exact ⟨q, he, H'⟩
theorem RMore_spec (D : Nat → Prop) (w : World) (n : Nat) (hn : n < 4294967296) (v : Value) (xs : List UInt8) (HA : Old D w (Rep.rep xs [v])) :
  Calls Tryz.prog 172 #[.int .u32 n, v] w fun e w' => e = .returned (.int .u32 (Mr n xs)) ∧ Own D w w' [] := by
 obtain ⟨A, cap, rfl, hc1, hc2, HS, hel⟩ := HA.openBE
 refine hc_enter (vs := [.int .u32 n, .slice A xs.length cap]) Tryz.func172 rfl _ Tryz.ntmps172 rfl (Own.start D w) ?_
 simp only [argSlots, Nat.zero_add]
 repeat (first | refine hc_seq ?_ | refine hc_region ?_ | refine zt ?_ | refine hc_block ?_ | refine hc_skip ?_ | refine zq ?_ | refine hc_exit ?_ | refine zr ?_ | refine ze ?_ | refine zb ?_ | refine hx_block_ret ?_ | refine hx_block_out ?_ | refine hx_block_on rfl ?_ | refine hl_nil ?_ | refine hl_val Z0 rfl rfl rfl ?_ | refine hl_new (on_alloc) rfl rfl rfl (fun _ => ?_) | refine hl_new (on_buildSliceN rfl rfl rfl) rfl rfl rfl (fun _ => ?_) | refine hl_u0 (on_storeN rfl rfl rfl rfl rfl) rfl rfl ?_ | refine hl_u0 (on_storeGN rfl rfl rfl rfl rfl rfl) rfl rfl ?_ | refine hl_u (on_mark rfl) rfl rfl rfl ?_ | refine hl_on rfl rfl ?_ | refine hl_off rfl rfl rfl rfl rfl rfl ?_)
 refine hl_val (ov_quo (m := ((n / 65536 : Nat) : Int)) rfl rfl Z63 ?_) rfl rfl rfl ?_
 ·exact IntWalk.u32_quo _ _ Z64
 repeat (first | refine hc_seq ?_ | refine hc_region ?_ | refine zt ?_ | refine hc_block ?_ | refine hc_skip ?_ | refine zq ?_ | refine hc_exit ?_ | refine zr ?_ | refine ze ?_ | refine zb ?_ | refine hx_block_ret ?_ | refine hx_block_out ?_ | refine hx_block_on rfl ?_ | refine hl_nil ?_ | refine hl_val Z0 rfl rfl rfl ?_ | refine hl_new (on_alloc) rfl rfl rfl (fun _ => ?_) | refine hl_new (on_buildSliceN rfl rfl rfl) rfl rfl rfl (fun _ => ?_) | refine hl_u0 (on_storeN rfl rfl rfl rfl rfl) rfl rfl ?_ | refine hl_u0 (on_storeGN rfl rfl rfl rfl rfl rfl) rfl rfl ?_ | refine hl_u (on_mark rfl) rfl rfl rfl ?_ | refine hl_on rfl rfl ?_ | refine hl_off rfl rfl rfl rfl rfl rfl ?_)
 have hq : (n % 65536 % 65521) < 65521 ∧ (n / 65536 % 65521) < 65521 := by omega
 refine hc_loop (σ := Nat) (fun k => [(7, .int .i64 k), (5, .int .u32 (adds (n % 65536 % 65521, n / 65536 % 65521) (xs.take k)).1), (6, .int .u32 (adds (n % 65536 % 65521, n / 65536 % 65521) (xs.take k)).2), (1, .slice A xs.length cap)])
  (fun k => []) (fun k => k ≤ xs.length) (fun k => xs.length - k) 0 (Nat.zero_le _) Z16 (Ent.refl _) ?_
 intro k hk K hK
 have hb := adds_lt (xs.take k) (n % 65536 % 65521, n / 65536 % 65521) hq.1 hq.2
 generalize hs : adds (n % 65536 % 65521, n / 65536 % 65521) (xs.take k) = q at hb
 repeat (first | refine hc_seq ?_ | refine hc_region ?_ | refine zt ?_ | refine hc_block ?_ | refine hc_skip ?_ | refine zq ?_ | refine hc_exit ?_ | refine zr ?_ | refine ze ?_ | refine zb ?_ | refine hx_block_ret ?_ | refine hx_block_out ?_ | refine hx_block_on rfl ?_ | refine hl_nil ?_ | refine hl_val Z0 rfl rfl rfl ?_ | refine hl_new (on_alloc) rfl rfl rfl (fun _ => ?_) | refine hl_new (on_buildSliceN rfl rfl rfl) rfl rfl rfl (fun _ => ?_) | refine hl_u0 (on_storeN rfl rfl rfl rfl rfl) rfl rfl ?_ | refine hl_u0 (on_storeGN rfl rfl rfl rfl rfl rfl) rfl rfl ?_ | refine hl_u (on_mark rfl) rfl rfl rfl ?_ | refine hl_on rfl rfl ?_ | refine hl_off rfl rfl rfl rfl rfl rfl ?_)
 refine hc_cond rfl (fun hlt => ?_) (fun hge => ?_)
 ·have hlt : k < xs.length := by omega
  obtain ⟨hA, hcl⟩ := hel k hlt
  have hx := xs[k].toNat_lt
  have hsn := adds_snoc (n % 65536 % 65521, n / 65536 % 65521) xs k hlt
  rw [hs] at hsn
  generalize xs[k] = x at *
  repeat (first | refine hc_seq ?_ | refine hc_region ?_ | refine zt ?_ | refine hc_block ?_ | refine hc_skip ?_ | refine zq ?_ | refine hc_exit ?_ | refine zr ?_ | refine ze ?_ | refine zb ?_ | refine hx_block_ret ?_ | refine hx_block_out ?_ | refine hx_block_on rfl ?_ | refine hl_nil ?_ | refine hl_val Z0 rfl rfl rfl ?_ | refine hl_new (on_alloc) rfl rfl rfl (fun _ => ?_) | refine hl_new (on_buildSliceN rfl rfl rfl) rfl rfl rfl (fun _ => ?_) | refine hl_u0 (on_storeN rfl rfl rfl rfl rfl) rfl rfl ?_ | refine hl_u0 (on_storeGN rfl rfl rfl rfl rfl rfl) rfl rfl ?_ | refine hl_u (on_mark rfl) rfl rfl rfl ?_ | refine hl_on rfl rfl ?_ | refine hl_off rfl rfl rfl rfl rfl rfl ?_)
  refine hx_then_k fun a w S => hK (k + 1) a w hlt Z64 ⟨S.env.sub ?_, S.own⟩
  rw [hsn]
  exact Z16
 ·have : k = xs.length := by omega
  subst this
  rw [List.take_length] at hs
  repeat (first | refine hc_seq ?_ | refine hc_region ?_ | refine zt ?_ | refine hc_block ?_ | refine hc_skip ?_ | refine zq ?_ | refine hc_exit ?_ | refine zr ?_ | refine ze ?_ | refine zb ?_ | refine hx_block_ret ?_ | refine hx_block_out ?_ | refine hx_block_on rfl ?_ | refine hl_nil ?_ | refine hl_val Z0 rfl rfl rfl ?_ | refine hl_new (on_alloc) rfl rfl rfl (fun _ => ?_) | refine hl_new (on_buildSliceN rfl rfl rfl) rfl rfl rfl (fun _ => ?_) | refine hl_u0 (on_storeN rfl rfl rfl rfl rfl) rfl rfl ?_ | refine hl_u0 (on_storeGN rfl rfl rfl rfl rfl rfl) rfl rfl ?_ | refine hl_u (on_mark rfl) rfl rfl rfl ?_ | refine hl_on rfl rfl ?_ | refine hl_off rfl rfl rfl rfl rfl rfl ?_)
  exact zz rfl rfl fun w' H' => ⟨by unfold Mr sumOf; rw [hs]; rfl, H'⟩
theorem Mr_of (q : Nat × Nat) (h1 : q.1 < 65521) (h2 : q.2 < 65521) (xs : List UInt8) : Mr (sumOf q) xs = sumOf (adds q xs) := by
 unfold Mr
 have e1 : sumOf q % 65536 % 65521 = q.1 := by unfold sumOf; omega
 have e2 : sumOf q / 65536 % 65521 = q.2 := by unfold sumOf; omega
 rw [e1, e2]
theorem RSum_spec (D : Nat → Prop) (w : World) (v : Value) (xss : List (List UInt8)) (HA : Old D w (Rep.rep xss [v])) :
  Calls Tryz.prog 163 #[v] w fun e w' => e = .returned (.int .u32 (Sm xss)) ∧ Own D w w' [] := by
 obtain ⟨A, cap, rfl, hc1, hc2, hel⟩ := HA.openE rfl
 refine hc_enter (vs := [.slice A xss.length cap]) Tryz.func163 rfl _ Tryz.ntmps163 rfl (Own.start D w) ?_
 simp only [argSlots, Nat.zero_add]
 repeat (first | refine hc_seq ?_ | refine hc_region ?_ | refine zt ?_ | refine hc_block ?_ | refine hc_skip ?_ | refine zq ?_ | refine hc_exit ?_ | refine zr ?_ | refine ze ?_ | refine zb ?_ | refine hx_block_ret ?_ | refine hx_block_out ?_ | refine hx_block_on rfl ?_ | refine hl_nil ?_ | refine hl_val Z0 rfl rfl rfl ?_ | refine hl_new (on_alloc) rfl rfl rfl (fun _ => ?_) | refine hl_new (on_buildSliceN rfl rfl rfl) rfl rfl rfl (fun _ => ?_) | refine hl_u0 (on_storeN rfl rfl rfl rfl rfl) rfl rfl ?_ | refine hl_u0 (on_storeGN rfl rfl rfl rfl rfl rfl) rfl rfl ?_ | refine hl_u (on_mark rfl) rfl rfl rfl ?_ | refine hl_on rfl rfl ?_ | refine hl_off rfl rfl rfl rfl rfl rfl ?_)
 refine hc_loop (σ := Nat) (fun k => [(4, .int .i64 k), (3, .int .u32 (sumOf (addAll (1, 0) (xss.take k)))), (0, .slice A xss.length cap)])
  (fun k => []) (fun k => k ≤ xss.length) (fun k => xss.length - k) 0 (Nat.zero_le _) (by rw [show sumOf (addAll (1, 0) (xss.take 0)) = 1 from by simp [addAll, sumOf]]; exact Z16) (Ent.refl _) ?_
 intro k hk K hK
 have hb := addAll_lt (xss.take k) (1, 0) Z63 Z63
 generalize hq : addAll (1, 0) (xss.take k) = q at hb
 repeat (first | refine hc_seq ?_ | refine hc_region ?_ | refine zt ?_ | refine hc_block ?_ | refine hc_skip ?_ | refine zq ?_ | refine hc_exit ?_ | refine zr ?_ | refine ze ?_ | refine zb ?_ | refine hx_block_ret ?_ | refine hx_block_out ?_ | refine hx_block_on rfl ?_ | refine hl_nil ?_ | refine hl_val Z0 rfl rfl rfl ?_ | refine hl_new (on_alloc) rfl rfl rfl (fun _ => ?_) | refine hl_new (on_buildSliceN rfl rfl rfl) rfl rfl rfl (fun _ => ?_) | refine hl_u0 (on_storeN rfl rfl rfl rfl rfl) rfl rfl ?_ | refine hl_u0 (on_storeGN rfl rfl rfl rfl rfl rfl) rfl rfl ?_ | refine hl_u (on_mark rfl) rfl rfl rfl ?_ | refine hl_on rfl rfl ?_ | refine hl_off rfl rfl rfl rfl rfl rfl ?_)
 refine hc_cond rfl (fun hlt => ?_) (fun hge => ?_)
 ·have hlt : k < xss.length := by omega
  obtain ⟨hA, u, hu, hcl⟩ := hel k hlt
  have hsn := addAll_snoc (1, 0) xss k hlt
  rw [hq] at hsn
  generalize xss[k] = xs at *
  repeat (first | refine hc_seq ?_ | refine hc_region ?_ | refine zt ?_ | refine hc_block ?_ | refine hc_skip ?_ | refine zq ?_ | refine hc_exit ?_ | refine zr ?_ | refine ze ?_ | refine zb ?_ | refine hx_block_ret ?_ | refine hx_block_out ?_ | refine hx_block_on rfl ?_ | refine hl_nil ?_ | refine hl_val Z0 rfl rfl rfl ?_ | refine hl_new (on_alloc) rfl rfl rfl (fun _ => ?_) | refine hl_new (on_buildSliceN rfl rfl rfl) rfl rfl rfl (fun _ => ?_) | refine hl_u0 (on_storeN rfl rfl rfl rfl rfl) rfl rfl ?_ | refine hl_u0 (on_storeGN rfl rfl rfl rfl rfl rfl) rfl rfl ?_ | refine hl_u (on_mark rfl) rfl rfl rfl ?_ | refine hl_on rfl rfl ?_ | refine hl_off rfl rfl rfl rfl rfl rfl ?_)
  refine hl_c Tryz.call172 rfl rfl (fun w1 H1 => Own.call0 H1 fun D' hold _ H2 => RMore_spec D' w1 (sumOf q) (sumOf_lt hb.1 hb.2) u xs (hold _ hu)) ?_
  repeat (first | refine hc_seq ?_ | refine hc_region ?_ | refine zt ?_ | refine hc_block ?_ | refine hc_skip ?_ | refine zq ?_ | refine hc_exit ?_ | refine zr ?_ | refine ze ?_ | refine zb ?_ | refine hx_block_ret ?_ | refine hx_block_out ?_ | refine hx_block_on rfl ?_ | refine hl_nil ?_ | refine hl_val Z0 rfl rfl rfl ?_ | refine hl_new (on_alloc) rfl rfl rfl (fun _ => ?_) | refine hl_new (on_buildSliceN rfl rfl rfl) rfl rfl rfl (fun _ => ?_) | refine hl_u0 (on_storeN rfl rfl rfl rfl rfl) rfl rfl ?_ | refine hl_u0 (on_storeGN rfl rfl rfl rfl rfl rfl) rfl rfl ?_ | refine hl_u (on_mark rfl) rfl rfl rfl ?_ | refine hl_on rfl rfl ?_ | refine hl_off rfl rfl rfl rfl rfl rfl ?_)
  refine hx_then_k fun a w S => hK (k + 1) a w hlt Z64 ⟨S.env.sub ?_, S.own⟩
  rw [hsn, ← Mr_of q hb.1 hb.2]
  exact Z16
 ·have : k = xss.length := by omega
  subst this
  rw [List.take_length] at hq
  repeat (first | refine hc_seq ?_ | refine hc_region ?_ | refine zt ?_ | refine hc_block ?_ | refine hc_skip ?_ | refine zq ?_ | refine hc_exit ?_ | refine zr ?_ | refine ze ?_ | refine zb ?_ | refine hx_block_ret ?_ | refine hx_block_out ?_ | refine hx_block_on rfl ?_ | refine hl_nil ?_ | refine hl_val Z0 rfl rfl rfl ?_ | refine hl_new (on_alloc) rfl rfl rfl (fun _ => ?_) | refine hl_new (on_buildSliceN rfl rfl rfl) rfl rfl rfl (fun _ => ?_) | refine hl_u0 (on_storeN rfl rfl rfl rfl rfl) rfl rfl ?_ | refine hl_u0 (on_storeGN rfl rfl rfl rfl rfl rfl) rfl rfl ?_ | refine hl_u (on_mark rfl) rfl rfl rfl ?_ | refine hl_on rfl rfl ?_ | refine hl_off rfl rfl rfl rfl rfl rfl ?_)
  exact zz rfl rfl fun w' H' => ⟨by unfold Sm; rw [hq], H'⟩
theorem Rfour_spec (D : Nat → Prop) (w : World) (n : Nat) (hn : n < 4294967296) :
  Calls Tryz.prog 162 #[.int .u32 n] w fun e w' => ∃ b : Nat, e = .returned (.slice (some ⟨b, 0, none⟩) 4 4) ∧ Own D w w' [row (some ⟨b, 0, none⟩) 5 1 4 4 ((fourB n).map u8v)] := by
 rw [fourB_cells]
 refine hc_enter (vs := [.int .u32 n]) Tryz.func162 rfl _ Tryz.ntmps162 rfl (Own.start D w) ?_
 simp only [argSlots, Nat.zero_add]
 refine zg <| zs rfl <| zn <| hc_seq <| hc_region <| zm rfl <| hl_v (ov_shr (m := ((n / 16777216 : Nat) : Int)) rfl rfl Z63 (shr_nat n 24)) rfl ?_
 refine hl_v (ov_conv (m := ((n / 16777216 % 256 : Nat) : Int)) rfl (wrap8E _)) rfl <| zm rfl <| hl_v (ov_shr (m := ((n / 65536 : Nat) : Int)) rfl rfl Z63 (shr_nat n 16)) rfl ?_
 refine hl_v (ov_conv (m := ((n / 65536 % 256 : Nat) : Int)) rfl (wrap8E _)) rfl <| zm rfl <| hl_v (ov_shr (m := ((n / 256 : Nat) : Int)) rfl rfl Z63 (shr_nat n 8)) rfl ?_
 refine hl_v (ov_conv (m := ((n / 256 % 256 : Nat) : Int)) rfl (wrap8E _)) rfl <| zm rfl <| hl_v (ov_conv (m := ((n % 256 : Nat) : Int)) rfl (wrap8E _)) rfl <| hl_new (on_buildSliceN rfl rfl rfl) rfl rfl rfl fun b14 =>
  zs rfl <| zn <| zq <| ?_
 exact zz rfl rfl fun w' H' => ⟨_, rfl, H'.ent (Ent.blk_row 1 4 rfl Z63)⟩
theorem Rnum_spec (D : Nat → Prop) (w : World) (v : Value) (xs : List UInt8) (hl : xs.length ≤ 4) (HA : Old D w (Rep.rep xs [v])) :
  Calls Tryz.prog 128 #[v] w fun e w' => e = .returned (.int .u32 (numE xs)) ∧ Own D w w' [] := by
 obtain ⟨A, cap, rfl, hc1, hc2, HS⟩ := HA.openB
 refine hc_enter (vs := [.slice A xs.length cap]) Tryz.func128 rfl _ Tryz.ntmps128 rfl (Own.start D w) ?_
 simp only [argSlots, Nat.zero_add]
 refine zg <| zs rfl <| zn <| hc_seq <| hc_region <| zs rfl <| zn <| hc_seq <| hc_seq <| hc_region <| zs rfl <| zn <| hc_block <| hc_loops2 (σ := Nat) [0] rfl 4 (fun k => .int .i64 (k : Int)) 3 (fun k => .int .u32 ((numE (xs.take k) : Nat) : Int)) (fun k => k ≤ xs.length) (fun k => xs.length - k) (0) (Nat.zero_le _) rfl rfl ?_
 rintro k hj K1 hK1
 refine hc_seq <| zg <| zm rfl <| zm rfl <| zv Z25 <| ?_
 refine zv (ov_lss rfl rfl) <| zn <| hc_cond rfl (fun h => ?_) (fun h => ?_)
 ·have hlt : k < xs.length := by omega
  have hA : isA A := HS.isA Z27
  have hcell : CellIs D w [] (ab A) (ao A + k * 1) (u8v xs[k]) := by
   rw [Nat.mul_one]
   exact (SrcIs.old HS).cell (by simp [hlt])
  have hx := xs[k].toNat_lt
  have hsn := numE_snoc xs k hlt
  have hb := numE_lt xs k hj
  have hb3 : numE (xs.take k) < 16777216 := Nat.lt_of_lt_of_le hb (by have : 256 ^ k ≤ 256 ^ 3 := Nat.pow_le_pow_right Z63 Z64; exact this)
  obtain ⟨m, hm⟩ : ∃ m, m = numE (xs.take k) := ⟨_, rfl⟩
  rw [← hm] at hsn hb3
  unfold u8v at hcell
  refine zk <| hc_seq <| hc_block <| hc_region <| zm rfl <| hl_v (ov_shl (m := ((m * 256 : Nat) : Int)) rfl rfl Z63 (by rw [← hm]; show IntKind.u32.wrap ((m : Int) * 256) = _; rw [show (m : Int) * 256 = ((m * 256 : Nat) : Int) by omega]; exact wrap_u32 Z64)) rfl ?_
  refine zm rfl <| zm rfl <| hl_v (ov_idxS rfl hA rfl k rfl hlt) rfl <| hl_v (ov_load rfl hcell) rfl <| zv (ov_conv rfl Z30) <| ?_
  refine hl_v (ov_add (m := ((numE (xs.take (k + 1)) : Nat) : Int)) rfl rfl (by rw [hsn]; exact (wrap_u32 Z64).trans Z64)) rfl ?_
  refine zs rfl <| hl_nil <| zb <| zt <| hc_region <| zm rfl <| zv (ov_add rfl rfl Z28) <| ?_
  refine zs rfl <| hl_nil <| hx_next hK1 (k + 1) Z64 Z64 Z16 Z10
 have : k = xs.length := by omega
 subst this
 refine hc_exit <| ze <| ze <| hx_block_out <| zt <| hc_seq <| hc_region <| zm rfl <| zs rfl <| zn <| zq <| ?_
 exact zz rfl rfl fun w' H' => ⟨by rw [List.take_length], H'⟩
theorem RNeed_spec (D : Nat → Prop) (w : World) (n : Int) :
  Calls Tryz.prog 129 #[.int .i64 n] w fun e w' => e = .returned (.int .i64 (needN n)) ∧ Own D w w' [] := by
 refine hc_enter (vs := [.int .i64 n]) Tryz.func129 rfl _ Tryz.ntmps129 rfl (Own.start D w) ?_
 simp only [argSlots, Nat.zero_add]
 refine zg <| zs rfl <| zn <| hc_seq <| zg <| zm rfl <| zv (ov_lss rfl rfl) <| zm rfl <| hl_part (t := 5) rfl (fun h0 => ?_) (fun h0 => ?_)
 ·have : needN n = 0 := by unfold needN; rw [if_pos (.inl h0)]
  rw [this]
  refine zo rfl rfl <| zo rfl rfl <| zv (ov_pickT rfl rfl) <| zn <| hc_cond_true rfl <| zg <| zs rfl <| zn <| zq <| zr <| ?_
  exact zz rfl rfl fun w' H' => ⟨rfl, H'⟩
 refine hl_on rfl rfl <| zm rfl <| hl_on rfl rfl <| zv (ov_gtr rfl rfl) <| zv (ov_pickF rfl rfl) <| zn <| hc_cond rfl (fun h1 => ?_) (fun h1 => ?_)
 ·have : needN n = 0 := by unfold needN; rw [if_pos (.inr Z64)]
  rw [this]
  refine zg <| zs rfl <| zn <| zq <| zr <| ?_
  exact zz rfl rfl fun w' H' => ⟨rfl, H'⟩
 have : needN n = (n + 77) / 63 := by unfold needN; rw [if_neg Z64]
 rw [this]
 refine zk <| zg <| zm rfl <| zv (ov_add rfl rfl Z28) <| ?_
 refine zv (ov_add rfl rfl Z28) <| ?_
 refine hl_v (ov_quo (m := (n + 77) / 63) rfl rfl Z63 (by rw [Int.tdiv_eq_ediv_of_nonneg Z64]; rw [show n + 15 + 62 = n + 77 by omega]; exact wrap_i64 Z64)) rfl ?_
 refine zs rfl <| zn <| zq <| ?_
 exact zz rfl rfl fun w' H' => ⟨rfl, H'⟩
theorem Rbytes_spec (D : Nat → Prop) (w : World) (k a b : Nat) (v : Value) (xs : List UInt8) (hk : k < 256) (ha : a < 4294967296) (hb : b < 4294967296) (hx : xs.length ≤ 4000) (HA : Old D w (Rep.rep xs [v])) :
  Calls Tryz.prog 150 #[.agg #[.int .i64 k, .int .u32 a, .int .u32 b, v]] w fun e w' => ∃ q : Option Addr × Nat, e = .returned (.slice q.1 (15 + xs.length) q.2) ∧ Own D w w' [row q.1 5 1 (15 + xs.length) q.2 ((fullB k a b xs).map u8v)] := by
 obtain ⟨A, cap, rfl, hc1, hc2, HS⟩ := HA.openB
 have hk8 : [Value.int .u8 (k : Int)] = [UInt8.ofNat k].map u8v := by rw [u8_small k hk]; rfl
 have hl8 : [Value.int .u8 ((xs.length / 256 : Nat) : Int), Value.int .u8 ((xs.length % 256 : Nat) : Int)] = [UInt8.ofNat (xs.length / 256), UInt8.ofNat xs.length].map u8v := by
  rw [u8_small (xs.length / 256) Z64, ← u8v_ofNatE]; rfl
 obtain ⟨F1, hF1e⟩ : ∃ F, F = [UInt8.ofNat k] ++ fourB a := ⟨_, rfl⟩
 obtain ⟨F2, hF2e⟩ : ∃ F, F = F1 ++ fourB b := ⟨_, rfl⟩
 obtain ⟨F3, hF3e⟩ : ∃ F, F = F2 ++ [UInt8.ofNat (xs.length / 256), UInt8.ofNat xs.length] := ⟨_, rfl⟩
 obtain ⟨F4, hF4e⟩ : ∃ F, F = F3 ++ xs := ⟨_, rfl⟩
 have hpre : F4 = preB k a b xs := by rw [hF4e, hF3e, hF2e, hF1e]; simp [preB, preL]
 have hF1 : [Value.int .u8 (k : Int)] ++ (fourB a).map u8v = F1.map u8v := by rw [hF1e, List.map_append, ← hk8]
 have hF2 : F1.map u8v ++ (fourB b).map u8v = F2.map u8v := by rw [hF2e, List.map_append]
 have hF3 : F2.map u8v ++ [Value.int .u8 ((xs.length / 256 : Nat) : Int), Value.int .u8 ((xs.length % 256 : Nat) : Int)] = F3.map u8v := by rw [hF3e, List.map_append, ← hl8]
 have hF4 : F3.map u8v ++ xs.map u8v = F4.map u8v := by rw [hF4e, List.map_append]
 have hF4l : F4.length = 11 + xs.length := by rw [hpre]; exact preB_length k a b xs
 refine hc_enter (vs := [.agg #[.int .i64 k, .int .u32 a, .int .u32 b, .slice A xs.length cap]]) Tryz.func150 rfl _ Tryz.ntmps150 rfl (Own.start D w) ?_
 simp only [argSlots, Nat.zero_add]
 refine zg <| hl_new (on_boxN rfl rfl) rfl rfl rfl fun b1 =>  ?_
 refine zs rfl <| zn <| hc_seq <| hc_cutK1 (σ := Option Addr × Nat) [1] rfl 3 (fun q => .slice q.1 5 q.2) (fun q => [row q.1 5 1 5 q.2 (F1.map u8v), blk b1 192 [.int .i64 k, .int .u32 a, .int .u32 b, .slice A xs.length cap]]) (fun K1 hK1 => ?_) (fun q => ?_)
 ·refine hc_any [blk b1 192 [.int .i64 k, .int .u32 a, .int .u32 b, .slice A xs.length cap]] mixed 9 rfl ?_
  refine ha_v 0 rfl (ov_fieldA rfl) rfl <| ha_v 1 rfl (zw rfl rfl) rfl <| ha_v 4 rfl (ov_fieldA rfl) rfl <| ha_v 5 rfl (zw rfl rfl) rfl <| ha_v 2 rfl (ov_conv (m := (k : Int)) rfl (wrap_u8 Z64)) rfl ?_
  refine ha_two 3 6 Z61 ?_ ?_
  ·skip
   refine ho_n rfl (on_buildSliceN rfl rfl rfl) rfl fun b7 =>  ?_
   refine ha_one 6 Z61 <| ho_kx (σ := Nat) rfl Tryz.call162 rfl (fun w1 => zu fun D' _ _ _ => Rfour_spec D' w1 a ha) ?_
   intro q10
   try rw [List.nil_append]
   refine ha_one 7 Z61 <| ?_
   first | refine ho_ent (Ent.blk_row (b := b7) 1 1 rfl Z63) ?_ | refine ho_ent (Ent.trans (Ent.perm (List.Perm.swap _ _ _)) (Ent.blk_row (b := b7) 1 1 rfl Z63)) ?_
   refine ho_n rfl (on_appendR (A := some ⟨b7, 0, none⟩) (news := (fourB a).map u8v) rfl rfl (SrcIs.rowR (A := some ⟨q10, 0, none⟩) (fun _ => rfl)) (by simp [fourB]) (u8_one _) Z63 Z63) rfl (fun q => ?_)
   rw [hF1]
   refine ha_v 8 rfl (ov_assign rfl) rfl <| ha_done Z61 <| ?_
   refine hx_cut hK1 (q) Z16 Z10
  skip
  refine ho_kx (σ := Nat) rfl Tryz.call162 rfl (fun w1 => zu fun D' _ _ _ => Rfour_spec D' w1 a ha) ?_
  intro q10
  try rw [List.nil_append]
  refine ha_one 3 Z61 <| ho_n rfl (on_buildSliceN rfl rfl rfl) rfl fun b7 =>  ?_
  refine ha_one 7 Z61 <| ?_
  first | refine ho_ent (Ent.blk_row (b := b7) 1 1 rfl Z63) ?_ | refine ho_ent (Ent.trans (Ent.perm (List.Perm.swap _ _ _)) (Ent.blk_row (b := b7) 1 1 rfl Z63)) ?_
  refine ho_n rfl (on_appendR (A := some ⟨b7, 0, none⟩) (news := (fourB a).map u8v) rfl rfl (SrcIs.rowR (A := some ⟨q10, 0, none⟩) (fun _ => rfl)) (by simp [fourB]) (u8_one _) Z63 Z63) rfl (fun q => ?_)
  rw [hF1]
  refine ha_v 8 rfl (ov_assign rfl) rfl <| ha_done Z61 <| ?_
  refine hx_cut hK1 (q) Z16 Z10
 refine zt <| zg <| zm rfl <| zf rfl <| zl rfl rfl <| ?_
 refine hl_call (σ := Nat) Tryz.call162 rfl rfl (fun w1 => zu fun D' _ _ _ => Rfour_spec D' w1 b hb) ?_
 intro q15
 try rw [List.nil_append]
 refine hl_new (on_appendR (A := q.1) (news := (fourB b).map u8v) rfl rfl (SrcIs.rowR (A := some ⟨q15, 0, none⟩) (fun _ => rfl)) (by simp [fourB]) (u8_one _) Z63 Z63) rfl rfl rfl (fun q2 => ?_)
 rw [hF2]
 refine zs rfl <| zn <| zg <| zm rfl <| zf rfl <| zl rfl rfl <| zv Z25 <| ?_
 refine hl_v (ov_shr (m := ((xs.length / 256 : Nat) : Int)) rfl rfl Z63 (shr_nat _ 8)) rfl ?_
 refine hl_v (ov_conv (m := ((xs.length / 256 : Nat) : Int)) rfl (wrap_u8 Z64)) rfl ?_
 refine zf rfl <| zl rfl rfl <| zv Z25 <| ?_
 refine hl_v (ov_conv (m := ((xs.length % 256 : Nat) : Int)) rfl (wrap8E _)) rfl <| hl_new (on_buildSliceN rfl rfl rfl) rfl rfl rfl fun b27 =>  ?_
 refine hl_new (on_appendR (A := q2.1) (news := [Value.int .u8 ((xs.length / 256 : Nat) : Int), Value.int .u8 ((xs.length % 256 : Nat) : Int)]) rfl rfl (SrcIs.blk (b := b27)) rfl (by rw [hl8]; exact u8_one _) Z63 Z63) rfl rfl rfl (fun q3 => ?_)
 rw [hF3]
 refine zs rfl <| zn <| zg <| zm rfl <| zf rfl <| zl rfl rfl <| ?_
 refine hl_new (on_appendR (A := q3.1) (news := xs.map u8v) rfl rfl (SrcIs.old HS) (by rw [List.length_map, Nat.mul_one]) (u8_one _) Z63 Z64) rfl rfl rfl (fun q4 => ?_)
 rw [hF4]
 refine zs rfl <| zn <| zg <| zm rfl <| zm rfl <| hl_new (on_buildSliceN rfl rfl rfl) rfl rfl rfl fun b35 =>  ?_
 refine hl_c Tryz.call163 rfl rfl (fun w1 => zun fun D' _ hin _ => RSum_spec D' w1 _ [F4] (hin _ fun h hs ho => rep_lits (b := b35) hs _ ⟨[_], [], rfl, rep_row (A := q4.1) hs F4 Z64 (repL_bytes.2 rfl), rfl⟩ (by simp))) ?_
 refine hl_call (σ := Nat) Tryz.call162 rfl rfl (fun w1 => zu fun D' _ _ _ => Rfour_spec D' w1 (Sm [F4]) (Sm_lt _)) ?_
 intro q37
 try rw [List.nil_append]
 refine hl_new (on_appendR (A := q4.1) (news := (fourB (Sm [F4])).map u8v) rfl rfl (SrcIs.rowR (A := some ⟨q37, 0, none⟩) (fun _ => rfl)) (by simp [fourB]) (u8_one _) Z63 Z64) rfl rfl rfl (fun q5 => ?_)
 refine zs rfl <| zn <| zq <| ?_
 have e1 : 5 + 4 + 2 + xs.length + 4 = 15 + xs.length := by omega
 have e2 : F4.map u8v ++ (fourB (Sm [F4])).map u8v = (fullB k a b xs).map u8v := by rw [fullB, ← hpre, List.map_append]
 rw [e1, e2]
 exact zz rfl rfl fun w' H' => ⟨q5, rfl, H'.ent Z8⟩
set_option maxHeartbeats 1000000 in
theorem REnc_ok (D : Nat → Prop) (w : World) (k a b : Nat) (v : Value) (xs : List UInt8) (hk : k < 256) (ha : a < 4294967296) (hb : b < 4294967296) (hx : xs.length ≤ 4000) (HA : Old D w (Rep.rep xs [v])) :
  Calls Tryz.prog 126 #[.agg #[.int .i64 k, .int .u32 a, .int .u32 b, v]] w fun e w' => ∃ q : Option Addr × Nat, e = .returned (.tuple #[.slice q.1 ((15 + xs.length + 62) / 63) q.2, .int .i64 0]) ∧ Own D w w' [row q.1 61 64 ((15 + xs.length + 62) / 63) q.2 ((encS (fullB k a b xs)).flatMap secC)] := by
 obtain ⟨Ax, capx, rfl, hc1, hc2, HS⟩ := HA.openB
 obtain ⟨F, hF⟩ : ∃ F, F = fullB k a b xs := ⟨_, rfl⟩
 have hFl : F.length = 15 + xs.length := by rw [hF]; exact fullB_length _ _ _ _
 have hS : encS F = secsTo F ((15 + xs.length + 62) / 63) := by rw [← hFl]; rfl
 rw [← hF, hS]
 obtain ⟨n, hn⟩ : ∃ n, n = 15 + xs.length := ⟨_, rfl⟩
 refine hc_enter (vs := [.agg #[.int .i64 k, .int .u32 a, .int .u32 b, .slice Ax xs.length capx]]) Tryz.func126 rfl _ Tryz.ntmps126 rfl (Own.start D w) ?_
 simp only [argSlots, Nat.zero_add]
 refine zg <| hl_new (on_boxN rfl rfl) rfl rfl rfl fun b1 =>  ?_
 refine zs rfl <| zs rfl <| zn <| hc_seq <| hc_seq <| hc_region <| zf rfl <| zl rfl rfl <| zv (ov_lss rfl rfl) <| zm rfl <| ?_
 refine hl_partF (t := 11) rfl (Z64) ?_
 refine hl_on rfl rfl <| zf rfl <| hl_on rfl rfl <| zl rfl rfl <| hl_on rfl rfl <| zv (ov_gtr rfl rfl) <| zv (ov_pickF rfl rfl) <| zn <| ?_
 refine hc_cond_F rfl (Z64) ?_
 refine zk <| hc_seq <| zg <| zf rfl <| ?_
 refine zl rfl rfl <| zv Z25 <| ?_
 refine zv (ov_gtr rfl rfl) <| zn <| hc_cond_F rfl (Z64) ?_
 refine zk <| zg <| zv Z17 <| ?_
 refine hl_call (σ := Option Addr × Nat) Tryz.call150 rfl rfl (fun w1 => zu fun D' hold _ _ => Rbytes_spec D' w1 k a b _ xs hk ha hb hx (hold _ HA)) ?_
 rintro ⟨A, c⟩
 try rw [List.nil_append]
 rw [← hn] at hFl
 rw [← hF, ← hn]
 dsimp only
 refine HL.fact (fun w H => Own.factR A H) ?_
 rintro ⟨hrl, hnc, hcc, hA⟩
 have hA : isA A := hA (by intro h; have := congrArg List.length h; simp [hFl] at this; omega)
 refine zs rfl <| zn <| zg <| zs rfl <| zn <| hc_seq <| zg <| zs rfl <| zn <| hc_block <| hc_loopK2 (σ := Nat × Option Addr × Nat) [4] rfl 6 (fun s => .int .i64 ((63 * s.1 : Nat) : Int)) 5 (fun s => .slice s.2.1 s.1 s.2.2) (fun s => [row s.2.1 61 64 s.1 s.2.2 ((secsTo F s.1).flatMap secC), row A 5 1 n c (F.map u8v)]) (fun s => s.1 ≤ (n + 62) / 63) (fun s => (n + 62) / 63 - s.1) ((0, none, 0)) (Nat.zero_le _) rfl rfl (Ent.trans (Ent.nil_row 61 64) (show Ent _ [row none 61 64 0 0 [], row A 5 1 n c (F.map u8v)] from Z8)) ?_
 rintro ⟨i, qo⟩ hi K1 hK1
 dsimp only at hi ⊢
 refine hc_seq <| zg <| zm rfl <| zm rfl <| zv Z25 <| ?_
 refine zv (ov_lss rfl rfl) <| zn <| hc_cond rfl (fun h => ?_) (fun h => ?_)
 ·have hin : 63 * i < n := by omega
  have hi1 : i + 1 ≤ (n + 62) / 63 := by omega
  obtain ⟨m, hm⟩ : ∃ m, m = min 63 (n - 63 * i) := ⟨_, rfl⟩
  have hm63 : m ≤ 63 := by omega
  have hsn : (secsTo F i).flatMap secC ++ secC (secOf F i) = (secsTo F (i + 1)).flatMap secC := by rw [secsTo_snoc]; simp
  refine zk <| hc_seq <| hc_block <| zg <| hl_new (on_alloc) rfl rfl rfl fun b7 =>
   zn <| zg <| zv (ov_idxPc rfl rfl rfl rfl rfl) <| ?_
  refine hl_u0 (on_storeE (.int .u8 119 :: List.replicate 63 (.int .u8 0)) rfl rfl (by simp) rfl rfl) rfl rfl ?_
  refine zn <| hc_seq <| zg <| zm rfl <| zv (ov_eql rfl rfl) <| zn <| ?_
  by_cases hi0 : i = 0
  ·have hcp : setSeg (.int .u8 87 :: List.replicate 63 (.int .u8 0)) (0 + 1 * 1) ((piece F i).map u8v) = secC (secOf F i) := by rw [copy_piece, secOf_cells, markK, if_pos hi0]; rfl
   refine hc_cond_T rfl (Z64) ?_
   refine hc_region <| zv (ov_idxPc rfl rfl rfl rfl rfl) <| hl_u0 (on_storeE (.int .u8 87 :: List.replicate 63 (.int .u8 0)) rfl rfl (by simp) rfl rfl) rfl rfl ?_
   refine zn <| hc_seq <| hc_tail 9 mixed Z61 ?_
   refine ht_v (ov_sliceP rfl 1 64 (.inr ⟨_, _, rfl, rfl⟩) (.inl ⟨rfl, rfl⟩) Z63 Z63 Z63) rfl ?_
   refine ht_v (ov_move rfl) rfl <| ht_v (ov_move rfl) rfl <| ht_v (ov_move rfl) rfl <| ?_
   refine ht_v (ov_add (m := ((63 * i + 63 : Nat) : Int)) rfl rfl ((wrap_i64 Z64).trans Z64)) rfl ?_
   refine ht_v (ov_move rfl) rfl <| ht_v Z25 rfl <| ?_
   refine ht_v (ov_min (m := ((63 * i + m : Nat) : Int)) rfl rfl (by split <;> omega)) rfl ?_
   refine ht_v (ov_slice rfl (63 * i) (63 * i + m) (.inr ⟨_, _, rfl, rfl⟩) (.inr ⟨_, _, rfl, rfl⟩) Z64 Z64) rfl ?_
   refine ht_nil <| ?_
   refine hl_u (on_copy (news := (piece F i).map u8v) rfl rfl (SrcIs.rowCut (A := A) hA (63 * i) m Z64 hrl hnc (take_map_u8 F i m (by rw [hFl]; exact hm))) (by rw [List.length_map, piece_length, hFl, ← hm, Nat.mul_one]; omega) Z64 Z21 (u8_one _)) rfl rfl rfl ?_
   rw [hcp]
   refine zn <| hc_region <| zm rfl <| hl_v (ov_loadW rfl (secC_len (secOf F i))) rfl <| hl_new (on_buildSlice (res := secC (secOf F i)) rfl rfl (fill_sec1 _)) rfl rfl rfl (fun b44 => ?_)
   refine hl_new (on_appendR (A := qo.1) (news := secC (secOf F i)) rfl rfl (SrcIs.blk (b := b44)) Z57 (secC_one _) Z63 Z64) rfl rfl rfl (fun q2 => ?_)
   rw [hsn]
   refine zs rfl <| hl_nil <| zb <| zt <| hc_region <| zm rfl <| zv (ov_add rfl rfl Z28) <| ?_
   refine zs rfl <| hl_nil <| hx_next hK1 ((i + 1, q2)) (hi1) Z64 Z16 Z10
  have hcp : setSeg (.int .u8 119 :: List.replicate 63 (.int .u8 0)) (0 + 1 * 1) ((piece F i).map u8v) = secC (secOf F i) := by rw [copy_piece, secOf_cells, markK, if_neg hi0]; rfl
  refine hc_cond_F rfl (Z64) ?_
  refine zk <| hc_seq <| hc_tail 9 mixed Z61 ?_
  refine ht_v (ov_sliceP rfl 1 64 (.inr ⟨_, _, rfl, rfl⟩) (.inl ⟨rfl, rfl⟩) Z63 Z63 Z63) rfl ?_
  refine ht_v (ov_move rfl) rfl <| ht_v (ov_move rfl) rfl <| ht_v (ov_move rfl) rfl <| ?_
  refine ht_v (ov_add (m := ((63 * i + 63 : Nat) : Int)) rfl rfl ((wrap_i64 Z64).trans Z64)) rfl ?_
  refine ht_v (ov_move rfl) rfl <| ht_v Z25 rfl <| ?_
  refine ht_v (ov_min (m := ((63 * i + m : Nat) : Int)) rfl rfl (by split <;> omega)) rfl ?_
  refine ht_v (ov_slice rfl (63 * i) (63 * i + m) (.inr ⟨_, _, rfl, rfl⟩) (.inr ⟨_, _, rfl, rfl⟩) Z64 Z64) rfl ?_
  refine ht_nil <| ?_
  refine hl_u (on_copy (news := (piece F i).map u8v) rfl rfl (SrcIs.rowCut (A := A) hA (63 * i) m Z64 hrl hnc (take_map_u8 F i m (by rw [hFl]; exact hm))) (by rw [List.length_map, piece_length, hFl, ← hm, Nat.mul_one]; omega) Z64 Z21 (u8_one _)) rfl rfl rfl ?_
  rw [hcp]
  refine zn <| hc_region <| zm rfl <| hl_v (ov_loadW rfl (secC_len (secOf F i))) rfl <| hl_new (on_buildSlice (res := secC (secOf F i)) rfl rfl (fill_sec1 _)) rfl rfl rfl (fun b44 => ?_)
  refine hl_new (on_appendR (A := qo.1) (news := secC (secOf F i)) rfl rfl (SrcIs.blk (b := b44)) Z57 (secC_one _) Z63 Z64) rfl rfl rfl (fun q2 => ?_)
  rw [hsn]
  refine zs rfl <| hl_nil <| zb <| zt <| hc_region <| zm rfl <| zv (ov_add rfl rfl Z28) <| ?_
  refine zs rfl <| hl_nil <| hx_next hK1 ((i + 1, q2)) (hi1) Z64 Z16 Z10
 obtain rfl : i = (n + 62) / 63 := by omega
 refine hc_exit <| ze <| ze <| hx_block_out <| zt <| hc_seq <| hc_region <| zm rfl <| zs rfl <| zs rfl <| zn <| zq <| ?_
 exact results_2 (.inr rfl) rfl rfl rfl fun w' H' => ⟨qo, rfl, H'.ent Z8⟩
def gathN : List Sec → Nat
 | [] => 0
 | s :: r => if s[0] = 119 then gathN r + 1 else 0
theorem gath_le : ∀ r : List Sec, gathN r ≤ r.length
 | [] => Nat.le_refl _
 | s :: r => by
  unfold gathN
  have := gath_le r
  rw [List.length_cons]
  split <;> omega
theorem gath_all : ∀ (r : List Sec) (j : Nat) (h : j < r.length), j < gathN r → r[j][0] = 119
 | [], j, h, _ => by simp at h
 | s :: r, 0, h, hg => by
  unfold gathN at hg
  split at hg
  ·rename_i hs; exact hs
  ·omega
 | s :: r, j + 1, h, hg => by
  unfold gathN at hg
  split at hg
  ·exact gath_all r j (by simpa using h) Z64
  ·omega
theorem gath_stop : ∀ (r : List Sec) (h : gathN r < r.length), r[gathN r][0] ≠ 119
 | [], h => by simp at h
 | s :: r, h => by
  by_cases hs : s[0] = 119
  ·have e : gathN (s :: r) = gathN r + 1 := by simp [gathN, hs]
   have h2 : gathN r < r.length := by rw [e, List.length_cons] at h; omega
   have := gath_stop r h2
   have e2 : (s :: r)[gathN (s :: r)]'h = r[gathN r] := by simp only [e, List.getElem_cons_succ]
   rw [e2]; exact this
  ·have e : gathN (s :: r) = 0 := by simp [gathN, hs]
   have e2 : (s :: r)[gathN (s :: r)]'h = s := by simp only [e, List.getElem_cons_zero]
   rw [e2]; exact hs
theorem gath_ge : ∀ (k : Nat) (r : List Sec), (∀ j, j < k → ∃ h : j < r.length, r[j][0] = 119) → k ≤ gathN r
 | 0, _, _ => Nat.zero_le _
 | k + 1, [], h => by obtain ⟨h1, _⟩ := h 0 Z64; simp at h1
 | k + 1, s :: r, h => by
  obtain ⟨_, h0⟩ := h 0 Z64
  have h0 : s[0] = 119 := h0
  have := gath_ge k r fun j hj => by
   obtain ⟨h1, h2⟩ := h (j + 1) Z64
   exact ⟨by simpa using h1, by simpa using h2⟩
  unfold gathN
  rw [if_pos h0]; omega
theorem encE_nth (e : EntT) (i : Nat) (h : i < (encE e).length) : (encE e)[i] = secOf (fullB e.1 e.2.1 e.2.2.1 e.2.2.2) i := by
 have : (encE e)[i]? = some (secOf (fullB e.1 e.2.1 e.2.2.1 e.2.2.2) i) := by
  unfold encE encS secsTo
  rw [List.getElem?_map, List.getElem?_range (by simpa [encE, encS, secsTo] using h)]; rfl
 rw [List.getElem?_eq_getElem h] at this
 simpa using this
theorem gath_enc {s : Sec} {r : List Sec} {x : EntT} {n : Nat} (hn : 1 ≤ n) (hl : n ≤ (s :: r).length) (h : encE x = (s :: r).take n) : n ≤ 1 + gathN r := by
 have := gath_ge (n - 1) r fun j hj => by
  have hjr : j < r.length := by rw [List.length_cons] at hl; omega
  have hle : j + 1 < (encE x).length := by rw [h, List.length_take]; omega
  have h1 := encE_nth x (j + 1) hle
  have h2 : (encE x)[j + 1] = r[j] := by
   have : (encE x)[j + 1]? = some r[j] := by
    rw [h, List.getElem?_take_of_lt Z64, List.getElem?_cons_succ, List.getElem?_eq_getElem hjr]
   rw [List.getElem?_eq_getElem hle] at this
   simpa using this
  refine ⟨hjr, ?_⟩
  rw [← h2, h1, secOf_mark]
  unfold markK; rw [if_neg Z64]
 omega
theorem body_take (S : List Sec) (m k : Nat) (h : k ≤ m) (hm : m ≤ S.length) : bodyS (S.take k) = (bodyS (S.take m)).take (63 * k) := by
 have e : S.take m = S.take k ++ (S.take m).drop k := by
  rw [show S.take k = (S.take m).take k by rw [List.take_take, Nat.min_eq_left h], List.take_append_drop]
 have hl : (bodyS (S.take k)).length = 63 * k := by rw [bodyS_length, List.length_take, Nat.min_eq_left Z64]
 rw [e]
 unfold bodyS at hl ⊢
 rw [List.flatMap_append, List.take_left' hl]
theorem head_body (s : Sec) (r : List Sec) (k lo m : Nat) (hk : 1 ≤ k) (h : lo + m ≤ 63) : ((bodyS ((s :: r).take k)).drop lo).take m = (s.toList.drop (lo + 1)).take m := by
 obtain ⟨k', rfl⟩ : ∃ k', k = k' + 1 := ⟨k - 1, by omega⟩
 rw [List.take_succ_cons]
 unfold bodyS
 have hl : (s.toList.drop 1).length = 63 := by simp
 rw [List.flatMap_cons, List.drop_append_of_le_length Z64, List.take_append_of_le_length Z40, List.drop_drop]
 congr 2
 omega
end Go.Proofs.YtjlolpmmpafjeaaGreat
