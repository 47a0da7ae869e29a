import Derived.Test.YtjlolpmmpafjeaaGreatV13
set_option linter.unusedVariables false
set_option linter.unusedSimpArgs false
namespace Go.Proofs.YtjlolpmmpafjeaaGreat
open Slk
theorem newest_spec (D : Nat → Prop) (w : World) (g : Nat) (S : List Sec) (hS : 32 ≤ S.length) (H : Own D w w [dsk g S []]) :
  Calls Tryz.prog 112 #[.pointer (some ⟨g, 0, none⟩)] w fun e w' => ∃ s : Nat × Option Addr × Nat, e = .returned (fndP (newS S) s.1) ∧ Own D w w' (dsk g S [] :: fndO (newS S) s.1 s.2) := by
 refine hc_enter (vs := [.pointer (some ⟨g, 0, none⟩)]) Tryz.func112 rfl _ Tryz.ntmps112 rfl H ?_
 simp only [argSlots, Nat.zero_add]
 refine zg <| zs rfl <| zn <| hc_seq <| hc_region <| zm rfl <| hl_new (on_buildSliceN rfl rfl rfl) rfl rfl rfl fun b4 =>  ?_
 refine hl_call (σ := Nat × Option Addr × Nat) Tryz.call143 rfl rfl (fun w1 => zpx (dsk g S []) fun D' _ hin H2 => look_spec D' w1 g b4 S hS (hin _ fun h hs _ => stars_blk hs) H2) ?_
 intro s
 refine zs rfl <| zn <| zq <| ?_
 exact zz rfl rfl fun w' H' => ⟨s, rfl, H'.ent (Ent.trans (b := dsk g S [] :: fndO (newS S) s.1 s.2 ++ [blk b4 3 [.int .i64 0, .int .i64 16]]) (fun _ h => h) Ent.append_l)⟩
def loadE (S : List Sec) : Nat × List UInt8 × Int := match newS S with
 | none => (0, [], 13)
 | some y => (y.1.2.1, y.1.2.2.2, 0)
theorem Load_spec (D : Nat → Prop) (w : World) (g : Nat) (S : List Sec) (hS : 32 ≤ S.length) (H : Own D w w [dsk g S []]) :
  Calls Tryz.prog 73 #[.pointer (some ⟨g, 0, none⟩)] w fun e w' => ∃ q : Option Addr × Nat, e = .returned (.tuple #[.int .u32 (loadE S).1, .slice q.1 (loadE S).2.1.length q.2, .int .i64 (loadE S).2.2]) ∧ Own D w w' [dsk g S [], row q.1 5 1 (loadE S).2.1.length q.2 ((loadE S).2.1.map u8v)] := by
 refine hc_enter (vs := [.pointer (some ⟨g, 0, none⟩)]) Tryz.func73 rfl _ Tryz.ntmps73 rfl H ?_
 simp only [argSlots, Nat.zero_add]
 refine zg <| zs rfl <| zs rfl <| zs rfl <| hl_nil <| zt <| hc_seq <| zg <| zm rfl <| hl_c Tryz.call44 rfl rfl (fun w1 => zp (dsk g S []) fun D' _ _ H2 => Len_spec D' w1 g S [] H2) ?_
 refine zv (ov_lss rfl rfl) <| zn <| hc_cond_F rfl (Z64) ?_
 refine zk <| zg <| zm rfl <| hl_call (σ := Nat × Option Addr × Nat) Tryz.call112 rfl rfl (fun w1 => zpx (dsk g S []) fun D' _ _ H2 => newest_spec D' w1 g S hS H2) ?_
 intro s
 obtain ⟨f, q⟩ := s
 unfold loadE
 rcases hn : newS S with _ | y
 ·dsimp only [fndP, fndO]
  refine zs rfl <| zn <| hc_seq <| zg <| zm rfl <| zv (ov_eqlP rfl rfl) <| zn <| hc_cond_true rfl <| zg <| zs rfl <| zs rfl <| zs rfl <| hl_nil <| zt <| zq <| zr <| ?_
  exact results_3 (.inr rfl) rfl rfl rfl rfl fun w' H' => ⟨(none, 0), rfl, H'.ent (Ent.trans (b := dsk g S [] :: []) Z8 (Ent.cons (Ent.nil_row 5 1)))⟩
 dsimp only [fndP, fndO]
 refine zs rfl <| zn <| hc_seq <| zg <| zm rfl <| zv (ov_eqlP rfl rfl) <| zn <| hc_cond_false rfl <| zk <| hc_seq <| hc_quiet mixed Z61 <| hq_v (ov_move rfl) rfl <| hq_v (ov_nil rfl) rfl <| ?_
 refine hq_v (ov_fieldA rfl) rfl <| hq_v (ov_fieldA rfl) rfl <| hq_v (zw rfl rfl) rfl <| hq_v (ov_move rfl) rfl <| hq_v (ov_nil rfl) rfl <| hq_v (ov_fieldA rfl) rfl <| ?_
 refine hq_v (ov_fieldA rfl) rfl <| hq_v (zw rfl rfl) rfl <| hq_v (ov_assign rfl) rfl <| hq_v (ov_assign rfl) rfl <| hq_v (ov_assign rfl) rfl <| hq_nil <| ?_
 refine zt <| zq <| ?_
 exact results_3 (.inr rfl) rfl rfl rfl rfl fun w' H' => ⟨q, rfl, H'.ent Z8⟩
def atS (S : List Sec) : Nat := match newS S with
 | none => 0
 | some y => if y.2 = 0 then 16 else 0
theorem atS_or (S : List Sec) : atS S = 0 ∨ atS S = 16 := by
 unfold atS; split
 ·exact .inl rfl
 split
 ·exact .inr rfl
 exact .inl rfl
abbrev snE (a : Nat) (xs : List UInt8) : EntT := (2, a, 0, xs)
def saveS (S : List Sec) (a : Nat) (xs : List UInt8) : List Sec := putS S (atS S) (encE (snE a xs))
theorem Encode_sn (D : Nat → Prop) (w : World) (a : Nat) (v : Value) (xs : List UInt8) (L : List Sec) (n : Nat) (hL : L = encE (snE a xs)) (hn : n = L.length) (ha : a < 4294967296) (hx : xs.length ≤ 4000) (HA : Old D w (Rep.rep xs [v])) :
  Calls Tryz.prog 99 #[.agg #[.int .i64 2, .int .u32 a, .int .u32 0, v]] w fun r w' => ∃ q : Option Addr × Nat, r = .returned (.tuple #[.slice q.1 n q.2, .int .i64 0]) ∧ Own D w w' [row q.1 61 64 n q.2 (L.flatMap secC)] := by
 subst hn; subst hL
 exact Encode_ent D w (snE a xs) ⟨show 2 < 256 by decide, ha, show 0 < 4294967296 by decide, hx⟩ v HA
set_option maxHeartbeats 1000000 in
theorem Save_ok (D : Nat → Prop) (w : World) (g : Nat) (S : List Sec) (a : Nat) (v : Value) (xs : List UInt8) (hS : 32 ≤ S.length) (ha : a < 4294967296) (hl : xs.length ≤ 993) (HA : Old D w (Rep.rep xs [v])) (H : Own D w w [dsk g S []]) :
  Calls Tryz.prog 111 #[.pointer (some ⟨g, 0, none⟩), .int .u32 a, v] w fun e w' => e = .returned (.int .i64 0) ∧ Own D w w' [dsk g (saveS S a xs) []] := by
 obtain ⟨L, hL⟩ : ∃ L, L = encE (snE a xs) := ⟨_, rfl⟩
 have hel : L.length = (15 + xs.length + 62) / 63 := by rw [hL, encE, encS_len, fullB_length]
 obtain ⟨A, cap, rfl, _⟩ := HA.openB
 have hsv : saveS S a xs = putS S (atS S) L := by unfold saveS; rw [hL]
 obtain ⟨n, hn⟩ : ∃ n, n = L.length := ⟨_, rfl⟩
 have hn1 : 1 ≤ n := by omega
 have hn16 : n ≤ 16 := by omega
 have hat := atS_or S
 obtain ⟨at_, hate⟩ : ∃ x, x = atS S := ⟨_, rfl⟩
 rw [← hate] at hat hsv
 have hfit : at_ + L.length ≤ S.length := by omega
 obtain ⟨x0, r, hLr⟩ : ∃ x r, L = x :: r := by
  cases L with
  | nil => simp at hn; omega
  | cons x r => exact ⟨x, r, rfl⟩
 have hrl : r.length = n - 1 := by rw [hn, hLr, List.length_cons]; omega
 have hl0 : 0 < L.length := by omega
 have hL0 : L[0] = x0 := by simp only [hLr, List.getElem_cons_zero]
 refine hc_enter (vs := [.pointer (some ⟨g, 0, none⟩), .int .u32 a, .slice A xs.length cap]) Tryz.func111 rfl _ Tryz.ntmps111 rfl H ?_
 simp only [argSlots, Nat.zero_add]
 refine zg <| zs rfl <| zn <| hc_seq <| zg <| zm rfl <| hl_c Tryz.call44 rfl rfl (fun w1 => zp (dsk g S []) fun D' _ _ H2 => Len_spec D' w1 g S [] H2) ?_
 refine zv (ov_lss rfl rfl) <| zn <| hc_cond_F rfl (Z64) ?_
 refine zk <| zg <| zm rfl <| zm rfl <| zv (ov_buildSN rfl rfl) <| ?_
 refine hl_call (σ := Option Addr × Nat) Tryz.call99 rfl rfl (fun w1 => zu fun D' hold _ _ => Encode_sn D' w1 a (.slice A xs.length cap) xs L n hL hn ha Z64 (hold _ HA)) ?_
 intro q
 try rw [List.nil_append]
 refine zm rfl <| zx rfl rfl <| zx rfl rfl <| zs rfl <| zs rfl <| hl_nil <| zt <| hc_seq <| zg <| zm rfl <| zv (ov_neq rfl rfl) <| zn <| hc_cond_F rfl ((fun h => h rfl)) <| zk <| hc_seq <| zg <| zm rfl <| zv Z25 <| ?_
 refine zv (ov_gtr rfl rfl) <| zn <| hc_cond_F rfl (Z64) ?_
 refine zk <| zg <| zs rfl <| hl_nil <| zt <| hc_seq <| zg <| zm rfl <| hl_call (σ := Nat × Option Addr × Nat) Tryz.call112 rfl rfl (fun w1 => zpx (dsk g S []) fun D' _ _ H2 => newest_spec D' w1 g S hS H2) ?_
 intro s
 obtain ⟨f, qf⟩ := s
 dsimp only
 refine zs rfl <| zn <| hc_cutK1 (σ := Unit) [0, 7] rfl 9 (fun _u => .int .i64 (at_ : Int)) (fun _u => [row q.1 61 64 n q.2 (L.flatMap secC), dsk g S []]) (fun K1 hK1 => ?_) (fun _u => ?_)
 ·unfold atS at hate
  rcases hnw : newS S with _ | y
  ·rw [hnw] at hate
   have hate : at_ = 0 := hate
   dsimp only [fndP, fndO]
   refine zg <| zm rfl <| zv (ov_neqP rfl rfl) <| zm rfl <| zo rfl rfl <| zo rfl rfl <| zo rfl rfl <| zo rfl rfl <| zo rfl rfl <| zv (ov_pickF rfl rfl) <| zn <| hc_cond_false rfl <| hc_skip <| ?_
   rw [hate] at hK1
   refine hx_cut hK1 (()) Z16 Z10
  rw [hnw] at hate
  have hate : at_ = if y.2 = 0 then 16 else 0 := hate
  dsimp only [fndP, fndO]
  refine zg <| zm rfl <| zv (ov_neqP rfl rfl) <| zm rfl <| hl_on rfl rfl <| zm rfl <| hl_on rfl rfl <| zv (ov_nil rfl) <| hl_on rfl rfl <| zf rfl <| hl_on rfl rfl <| zl rfl rfl <| hl_on rfl rfl <| zv (ov_eql rfl rfl) <| zv (ov_pickT rfl rfl) <| ?_
  refine zn <| hc_cond rfl (fun z => ?_) (fun z => ?_)
  ·rw [if_pos Z64] at hate
   rw [hate] at hK1
   refine hc_region <| zs rfl <| hl_nil <| hx_cut hK1 (()) Z16 Z10
  rw [if_neg Z64] at hate
  rw [hate] at hK1
  refine hc_skip <| hx_cut hK1 (()) Z16 Z10
 refine zt <| hc_seq <| zg <| zm rfl <| zv Z25 <| ?_
 refine zm rfl <| zn <| hc_block <| hc_loopK1 (σ := Nat × List Sec × List (Nat × Sec)) [0, 7, 9, 43] rfl 44 (fun s => .int .i64 (s.1 : Int)) (fun s => [dsk g s.2.1 s.2.2, row q.1 61 64 n q.2 (L.flatMap secC)]) (fun s => s.1 ≤ n ∧ (s.1 < n → s.2 = (S, PW (at_ + 1) r s.1)) ∧ (s.1 = n → s.2 = (putS S (at_ + 1) r, [(at_, x0)]))) (fun s => n - s.1) ((0, S, [])) (⟨Nat.zero_le _, fun _ => rfl, fun h => by omega⟩) rfl Z10 ?_
 rintro ⟨i, T, P⟩ hj_ K2 hK2
 dsimp only at hj_ ⊢
 obtain ⟨hi, hlt1, heq1⟩ := hj_
 refine zg <| zv (ov_lss rfl rfl) <| zn <| hc_seq <| hc_cond rfl (fun h => ?_) (fun h => ?_)
 ·have hin : i < n := by omega
  have hTP := hlt1 hin
  simp only [Prod.mk.injEq] at hTP
  obtain ⟨rfl, rfl⟩ := hTP
  refine HC.fact (fun w H => Own.factR q.1 H) ?_
  rintro ⟨hpl, _, _, hA⟩
  have hA : isA q.1 := hA Z11
  by_cases hlast : i + 1 = n
  ·have hi1 : i = r.length := by omega
   refine zk <| hc_seq <| hc_block <| zg <| zm rfl <| zs rfl <| zn <| zg <| zm rfl <| zv (ov_add rfl rfl Z28) <| ?_
   refine zm rfl <| zv Z25 <| ?_
   refine hl_v (ov_remE (m := 0) (b := n) rfl rfl Z64 (by rw [hlast, Nat.mod_self])) rfl ?_
   refine zs rfl <| zn <| hc_seq <| zg <| zm rfl <| zv (ov_eql rfl rfl) <| zn <| hc_cond_T rfl ((by rfl)) ?_
   refine zg <| zm rfl <| hl_c Tryz.call24 rfl rfl (fun w1 => zp (dsk g T (PW (at_ + 1) r i)) fun D' _ _ H2 => (Flush_spec D' w1 g T (PW (at_ + 1) r i) (PW_lt (by rw [hLr, List.length_cons] at hfit; omega)) H2)) ?_
   have hfl : settleL (fun _ => true) 0 T (PW (at_ + 1) r i) = putS T (at_ + 1) r := by rw [hi1]; exact PW_done Z64
   rw [hfl]
   have hpl2 : (putS T (at_ + 1) r).length = T.length := putS_len Z64
   refine zs rfl <| zn <| zg <| zm rfl <| zv (ov_neq rfl rfl) <| zn <| hc_cond_F rfl ((fun h => h rfl)) <| zk <| zg <| zm rfl <| zm rfl <| zm rfl <| hl_v (ov_add (m := ((at_ : Nat) : Int)) rfl rfl ((wrap_i64 Z64).trans Z64)) rfl ?_
   refine zm rfl <| zm rfl <| hl_v (ov_idxS rfl hA rfl 0 rfl Z64) rfl ?_
   refine hl_v (ov_loadG (cs := secC x0) rfl (secC_len _) (by rw [← hL0]; exact CellsAre.flat (f := secC) (A := q.1) secC_len hA (i := 0) hl0)) rfl ?_
   refine hl_c Tryz.call23 rfl rfl (fun w1 => zp (dsk g (putS T (at_ + 1) r) []) fun D' _ _ H2 => Write_ok D' w1 g at_ x0 (putS T (at_ + 1) r) [] Z64 Z63 H2) ?_
   refine zs rfl <| zn <| zg <| zm rfl <| zv (ov_neq rfl rfl) <| zn <| hc_cond_F rfl ((fun h => h rfl)) <| hc_skip <| zb <| zt <| hc_region <| zv (ov_add rfl rfl Z28) <| ?_
   refine zm rfl <| hl_nil <| hx_next hK2 ((i + 1, putS T (at_ + 1) r, [(at_, x0)])) (⟨by show i + 1 ≤ n; omega, fun h => by have h : i + 1 < n := h; omega, fun _ => rfl⟩) Z64 Z16 Z10
  have hir : i < r.length := by omega
  have hli : i + 1 < L.length := by omega
  have hLi : L[i + 1] = r[i] := by simp only [hLr, List.getElem_cons_succ]
  refine zk <| hc_seq <| hc_block <| zg <| zm rfl <| zs rfl <| zn <| zg <| zm rfl <| zv (ov_add rfl rfl Z28) <| ?_
  refine zm rfl <| zv Z25 <| ?_
  refine hl_v (ov_remE (m := i + 1) (b := n) rfl rfl Z64 (Nat.mod_eq_of_lt Z64).symm) rfl ?_
  refine zs rfl <| zn <| hc_seq <| zg <| zm rfl <| zv (ov_eql rfl rfl) <| zn <| hc_cond_F rfl (Z64) ?_
  refine zk <| zg <| zm rfl <| zm rfl <| zm rfl <| hl_v (ov_add (m := ((at_ + 1 + i : Nat) : Int)) rfl rfl ((wrap_i64 Z64).trans Z64)) rfl ?_
  refine zm rfl <| zm rfl <| hl_v (ov_idxS rfl hA rfl (i + 1) rfl Z64) rfl ?_
  refine hl_v (ov_loadG (cs := secC r[i]) rfl (secC_len _) (by rw [← hLi]; exact CellsAre.flat (f := secC) (A := q.1) secC_len hA (i := i + 1) hli)) rfl ?_
  refine hl_c Tryz.call23 rfl rfl (fun w1 => zp (dsk g T (PW (at_ + 1) r i)) fun D' _ _ H2 => Write_ok D' w1 g (at_ + 1 + i) r[i] T (PW (at_ + 1) r i) Z64 (by have := PW_len (at_ := at_ + 1) (l := r) (i := i); omega) H2) ?_
  rw [← PW_succ hir]
  refine zs rfl <| zn <| zg <| zm rfl <| zv (ov_neq rfl rfl) <| zn <| hc_cond_F rfl ((fun h => h rfl)) <| hc_skip <| zb <| zt <| hc_region <| zv (ov_add rfl rfl Z28) <| ?_
  refine zm rfl <| hl_nil <| hx_next hK2 ((i + 1, T, PW (at_ + 1) r (i + 1))) (⟨by show i + 1 ≤ n; omega, fun _ => rfl, fun h => by have h : i + 1 = n := h; omega⟩) Z64 Z16 Z10
 have hin : i = n := by omega
 have hTP := heq1 hin
 simp only [Prod.mk.injEq] at hTP
 obtain ⟨rfl, rfl⟩ := hTP
 have hpl2 : (putS S (at_ + 1) r).length = S.length := putS_len Z64
 have hfin : settleL (fun _ => true) 0 (putS S (at_ + 1) r) [(at_, x0)] = saveS S a xs := by
  rw [hsv, hLr, ← put_first (by rw [← hLr]; exact hfit)]; rfl
 refine hc_exit <| ze <| ze <| hx_block_out <| zt <| hc_seq <| hc_region <| zm rfl <| hl_c Tryz.call24 rfl rfl (fun w1 => zp (dsk g (putS S (at_ + 1) r) [(at_, x0)]) fun D' _ _ H2 => Flush_spec D' w1 g (putS S (at_ + 1) r) [(at_, x0)] (fun p hp => by obtain rfl := List.mem_singleton.1 hp; show at_ < _; omega) H2) ?_
 rw [hfin]
 refine zs rfl <| zn <| zq <| ?_
 exact zz rfl rfl fun w' H' => ⟨rfl, H'.ent Z8⟩
theorem dec_first {s : Sec} {r : List Sec} (h : s[0] ≠ 87) : decS (s :: r) = none := by
 unfold decS; exact if_neg (fun hh => h (UInt8.toNat_inj.1 hh.1))
theorem look_none {S : List Sec} {at_ : Nat} {s : Sec} (h : S[at_]? = some s) (hs : s[0] ≠ 87) : lookS S at_ = none := by
 obtain ⟨hl, rfl⟩ := List.getElem?_eq_some_iff.1 h
 unfold lookS
 rw [List.drop_eq_getElem_cons hl, List.take_succ_cons, dec_first hs]
theorem look_put {S : List Sec} {at_ : Nat} {e : EntT} (hok : okE e) (h1 : e.1 = 2) (h2 : e.2.2.1 = 0) (hl : (encE e).length ≤ 16) (hS : at_ + 16 ≤ S.length) : lookS (putS S at_ (encE e)) at_ = some e := by
 have : ((putS S at_ (encE e)).drop at_).take 16 = encE e ++ (S.drop (at_ + (encE e).length)).take (16 - (encE e).length) := by
  unfold putS
  rw [List.append_assoc, List.drop_left' Z39, List.take_append, List.take_of_length_le hl]
 unfold lookS
 rw [this, decS_enc e hok]
 exact if_pos ⟨h1, h2⟩
theorem look_other {S : List Sec} {at_ at2 : Nat} {l : List Sec} (h : at_ + l.length ≤ S.length) (h1 : at2 + 16 ≤ at_ ∨ at_ + l.length ≤ at2) : lookS (putS S at_ l) at2 = lookS S at2 := by
 have : ((putS S at_ l).drop at2).take 16 = (S.drop at2).take 16 := by
  refine List.ext_getElem? fun i => ?_
  rw [List.getElem?_take, List.getElem?_take]
  split
  ·rw [List.getElem?_drop, List.getElem?_drop, putS_get h]
   rcases h1 with h1 | h1
   ·rw [if_pos Z64]
   ·rw [if_neg Z64, if_neg Z64]
  ·rfl
 unfold lookS
 rw [this]
theorem encE_sn {a : Nat} {xs : List UInt8} (hx : xs.length ≤ 993) : (encE (snE a xs)).length ≤ 16 ∧ 1 ≤ (encE (snE a xs)).length := by
 rw [encE, encS_len, fullB_length]
 show (15 + xs.length + 62) / 63 ≤ 16 ∧ 1 ≤ (15 + xs.length + 62) / 63
 omega
theorem snE_ok {a : Nat} {xs : List UInt8} (ha : a < 4294967296) (hx : xs.length ≤ 993) : okE (snE a xs) := ⟨show 2 < 256 by decide, ha, show 0 < 4294967296 by decide, show xs.length ≤ 4000 by omega⟩
section
variable {S : List Sec} {a : Nat} {xs : List UInt8}
theorem save_len (hS : 32 ≤ S.length) (hx : xs.length ≤ 993) : (saveS S a xs).length = S.length := by
 have := atS_or S
 have := (encE_sn (a := a) hx).1
 exact putS_len Z64
theorem save_look (hS : 32 ≤ S.length) (ha : a < 4294967296) (hx : xs.length ≤ 993) : lookS (saveS S a xs) (atS S) = some (snE a xs) := by
 have := atS_or S
 exact look_put (snE_ok ha hx) rfl rfl (encE_sn hx).1 Z64
theorem save_other (hS : 32 ≤ S.length) (hx : xs.length ≤ 993) {at2 : Nat} (h2 : at2 = 0 ∨ at2 = 16) (hne : at2 ≠ atS S) : lookS (saveS S a xs) at2 = lookS S at2 := by
 have := atS_or S
 have := (encE_sn (a := a) hx).1
 exact look_other Z64 Z64
theorem save_get (hS : 32 ≤ S.length) (hx : xs.length ≤ 993) {at2 i : Nat} (h2 : at2 = 0 ∨ at2 = 16) (hne : at2 ≠ atS S) (hi : at2 ≤ i ∧ i < at2 + 16) : (saveS S a xs)[i]? = S[i]? := by
 have := atS_or S
 have := (encE_sn (a := a) hx).1
 unfold saveS
 rw [putS_get Z64]
 rcases Nat.lt_or_ge i (atS S) with h | h
 ·rw [if_pos h]
 ·rw [if_neg Z64, if_neg Z64]
end
theorem newS_eq (S : List Sec) : newS S = pickS (pickS none 0 (lookS S 0)) 16 (lookS S 16) := rfl
theorem blank_look {n at_ : Nat} (h : at_ < n) : lookS (List.replicate n zeroSec) at_ = none :=
 look_none (s := zeroSec) (by rw [List.getElem?_replicate, if_pos h]) Z63
theorem blank_new {n : Nat} (h : 32 ≤ n) : newS (List.replicate n zeroSec) = none := by
 rw [newS_eq, blank_look Z64, blank_look Z64]; rfl
theorem atS_none {S : List Sec} (h : newS S = none) : atS S = 0 := by unfold atS; rw [h]
theorem atS_some {S : List Sec} {y : EntT × Nat} (h : newS S = some y) : atS S = if y.2 = 0 then 16 else 0 := by unfold atS; rw [h]
theorem loadE_none {S : List Sec} (h : newS S = none) : loadE S = (0, [], 13) := by unfold loadE; rw [h]
theorem loadE_some {S : List Sec} {y : EntT × Nat} (h : newS S = some y) : loadE S = (y.1.2.1, y.1.2.2.2, 0) := by unfold loadE; rw [h]
theorem Load_is (D : Nat → Prop) (w : World) (g : Nat) (S : List Sec) (a : Nat) (xs : List UInt8) (er : Int) (hL : loadE S = (a, xs, er)) (hS : 32 ≤ S.length) (H : Own D w w [dsk g S []]) :
  Calls Tryz.prog 73 #[.pointer (some ⟨g, 0, none⟩)] w fun e w' => ∃ q : Option Addr × Nat, e = .returned (.tuple #[.int .u32 a, .slice q.1 xs.length q.2, .int .i64 er]) ∧ Own D w w' [dsk g S [], row q.1 5 1 xs.length q.2 (xs.map u8v)] := by
 have h := Load_spec D w g S hS H
 rw [hL] at h
 exact h
def edF (c : ConfC) (l : List EditC) : ConfC × Int :=
 if ¬ goodP c then (zeroC, 14) else if 32 < l.length then (zeroC, 3) else if (foldC c l).2 ≠ 0 then (zeroC, (foldC c l).2) else if ¬ goodP (foldC c l).1 then (zeroC, 14) else ((foldC c l).1, 0)
theorem edF_R (c : ConfC) (l : List EditC) : EditR c l (edF c l) := by
 unfold edF
 by_cases h1 : goodP c
 ·rw [if_neg (fun h => h h1)]
  by_cases h2 : 32 < l.length
  ·rw [if_pos h2]; exact .inr (.inl ⟨h1, h2, rfl⟩)
  ·rw [if_neg h2]
   by_cases h3 : (foldC c l).2 ≠ 0
   ·rw [if_pos h3]; exact .inr (.inr (.inl ⟨h1, by omega, h3, rfl⟩))
   ·rw [if_neg h3]
    have h3 : (foldC c l).2 = 0 := Classical.not_not.1 h3
    by_cases h4 : goodP (foldC c l).1
    ·rw [if_neg (fun h => h h4)]; exact .inr (.inr (.inr (.inr ⟨h1, by omega, h3, h4, rfl⟩)))
    ·rw [if_pos h4]; exact .inr (.inr (.inr (.inl ⟨h1, by omega, h3, h4, rfl⟩)))
 ·rw [if_pos h1]; exact .inl ⟨h1, rfl⟩
theorem edF_of {c : ConfC} {l : List EditC} {r : ConfC × Int} (h : EditR c l r) : r = edF c l := h.det (edF_R c l)
theorem edF_ok {c : ConfC} {l : List EditC} (h : (edF c l).2 = 0) : goodP c ∧ l.length ≤ 32 ∧ (foldC c l).2 = 0 ∧ goodP (foldC c l).1 ∧ (edF c l).1 = (foldC c l).1 := by
 rcases edF_R c l with ⟨h1, h2⟩ | ⟨h1, h2, h3⟩ | ⟨h1, h2, h3, h4⟩ | ⟨h1, h2, h3, h4, h5⟩ | ⟨h1, h2, h3, h4, h5⟩
 ·rw [h2] at h; cases h
 ·rw [h3] at h; cases h
 ·rw [h4] at h; exact absurd h h3
 ·rw [h5] at h; cases h
 ·exact ⟨h1, h2, h3, h4, by rw [h5]⟩
theorem oneC_ports (c : ConfC) (e : EditC) : (oneC c e).1.2.2.2.1.length = c.2.2.2.1.length := by
 unfold oneC
 dsimp only
 split; · rfl
 split; · rfl
 split; · rfl
 split
 ·split; · rfl
  split
  ·split; · rfl
   exact List.length_set
  ·split
   ·split; · rfl
    exact List.length_set
   ·exact List.length_set
 split; · rfl
 split; · rfl
 split
 ·split <;> rfl
 split
 ·split <;> rfl
 ·rfl
theorem foldC_ports : ∀ (l : List EditC) (c : ConfC), (foldC c l).1.2.2.2.1.length = c.2.2.2.1.length
 | [], c => rfl
 | e :: r, c => by
  unfold foldC
  split
  ·rw [foldC_ports r, oneC_ports]
  ·exact oneC_ports c e
theorem edF_ports {c : ConfC} {l : List EditC} (h : (edF c l).2 = 0) : (edF c l).1.2.2.2.1.length = c.2.2.2.1.length := by
 rw [(edF_ok h).2.2.2.2, foldC_ports]
def replF : ConfC → List (List EditC) → Option ConfC
 | c, [] => some c
 | c, l :: r => if (edF c l).2 = 0 then replF (edF c l).1 r else none
theorem replF_snoc (l : List EditC) : ∀ (Ls : List (List EditC)) (c d : ConfC), replF c Ls = some d → (edF d l).2 = 0 → replF c (Ls ++ [l]) = some (edF d l).1
 | [], c, d, h, h2 => by
  have h : some c = some d := h
  injection h with h; subst h
  show (if (edF c l).2 = 0 then some (edF c l).1 else none) = _
  rw [if_pos h2]
 | x :: r, c, d, h, h2 => by
  have h : (if (edF c x).2 = 0 then replF (edF c x).1 r else none) = some d := h
  show (if (edF c x).2 = 0 then replF (edF c x).1 (r ++ [l]) else none) = _
  split at h
  ·rename_i h0
   rw [if_pos h0]; exact replF_snoc l r _ d h h2
  ·cases h
theorem replF_ports : ∀ (Ls : List (List EditC)) (c d : ConfC), replF c Ls = some d → d.2.2.2.1.length = c.2.2.2.1.length
 | [], c, d, h => by
  have h : some c = some d := h
  injection h with h; subst h; rfl
 | x :: r, c, d, h => by
  have h : (if (edF c x).2 = 0 then replF (edF c x).1 r else none) = some d := h
  split at h
  ·rename_i h0
   rw [replF_ports r _ d h, edF_ports h0]
  ·cases h
theorem cfgB_small {c : ConfC} (h : goodP c) : (cfgB c).length ≤ 993 := by
 have hw := h.wok
 have := hw.lp; have := hw.lv; have := hw.ls
 rw [cfgB_len]; omega
theorem edsB_small {l : List EditC} (h : l.length ≤ 32) : (edsB l).length ≤ 513 := by rw [edsB_len]; omega
instance decE (e : EditC) : Decidable (goodE e) := inferInstanceAs (Decidable (1 ≤ e.1 ∧ e.1 ≤ 10 ∧ 0 ≤ e.2.1 ∧ e.2.1 < 256 ∧ 0 ≤ e.2.2.1 ∧ e.2.2.1 < 4294967296 ∧ 0 ≤ e.2.2.2.1 ∧ e.2.2.2.1 < 65536 ∧ e.2.2.2.2.2.2.toNat < 281474976710656))
instance decEds (l : List EditC) : Decidable (okEds l) := inferInstanceAs (Decidable (l.length ≤ 32 ∧ ∀ i (h : i < l.length), goodE l[i]))
theorem look_congr2 {S S' : List Sec} {at_ : Nat} (h : ∀ j, at_ ≤ j → j < at_ + 16 → S'[j]? = S[j]?) : lookS S' at_ = lookS S at_ := by
 have : (S'.drop at_).take 16 = (S.drop at_).take 16 := by
  refine List.ext_getElem? fun i => ?_
  rw [List.getElem?_take, List.getElem?_take]
  split
  ·rw [List.getElem?_drop, List.getElem?_drop, h _ Z64 Z64]
  ·rfl
 unfold lookS
 rw [this]
theorem look_head2 {S : List Sec} {at_ : Nat} {e : EntT} (h : lookS S at_ = some e) : ∃ s, S[at_]? = some s ∧ headOf e.2.1 s := by
 unfold lookS at h
 rcases hT : (S.drop at_).take 16 with _ | ⟨s, r⟩
 ·rw [hT] at h; cases h
 ·rw [hT] at h
  rcases hd : decS (s :: r) with _ | ⟨x, n⟩
  ·rw [hd] at h; cases h
  ·rw [hd] at h
   dsimp only at h
   split at h
   ·injection h with h; subst h
    refine ⟨s, ?_, (decS_head hd).1⟩
    have : ((S.drop at_).take 16)[0]? = (s :: r)[0]? := by rw [hT]
    rw [List.getElem?_take_of_lt Z63, List.getElem?_drop] at this
    simpa using this
   ·cases h
theorem z87 : zeroSec[0] ≠ 87 := by decide
structure TK (S : List Sec) (i : Nat) : Prop where
 len : 32 ≤ S.length
 at_ : atS S = 16 * (i % 2)
 el : ∀ e, lookS S (16 * ((i + 1) % 2)) = some e → e.2.1 < i + 1
 hd : ∀ s, S[16 * (i % 2)]? = some s → s[0] = 87 → numAt s 2 4 < i
 nw : (i = 0 ∧ lookS S 0 = none ∧ lookS S 16 = none ∧ ∀ s, S[16]? = some s → s[0] ≠ 87) ∨ ∃ x, lookS S (16 * ((i + 1) % 2)) = some (snE i x)
theorem TK.zero {m : Nat} (hm : 32 ≤ m) : TK (List.replicate m zeroSec) 0 := by
 have hz : ∀ (j : Nat) s, (List.replicate m zeroSec)[j]? = some s → s[0] ≠ 87 := fun j s hs => by
  rw [List.getElem?_replicate] at hs
  split at hs
  ·injection hs with hs; rw [← hs]; exact z87
  ·cases hs
 refine ⟨by rw [List.length_replicate]; exact hm, atS_none (blank_new hm), fun e h => ?_, fun s hs h87 => absurd h87 (hz _ s hs), .inl ⟨rfl, blank_look Z64, blank_look Z64, hz 16⟩⟩
 rw [blank_look Z64] at h; cases h
theorem TK.next {S : List Sec} {i : Nat} {xs : List UInt8} (h : TK S i) (hi : i < 4294967295) (hx : xs.length ≤ 993) : TK (saveS S (i + 1) xs) (i + 1) ∧ loadE (saveS S (i + 1) xs) = (i + 1, xs, 0) := by
 obtain ⟨h1, h2, h3, h4, h5⟩ := h
 have hl : (saveS S (i + 1) xs).length = S.length := save_len Z64 hx
 have m1 : lookS (saveS S (i + 1) xs) (16 * (i % 2)) = some (snE (i + 1) xs) := by
  have := save_look (S := S) (a := i + 1) (xs := xs) Z64 Z64 hx
  rwa [h2] at this
 have m2 : lookS (saveS S (i + 1) xs) (16 * ((i + 1) % 2)) = lookS S (16 * ((i + 1) % 2)) := save_other Z64 hx Z64 Z64
 have hn : newS (saveS S (i + 1) xs) = some (snE (i + 1) xs, 16 * (i % 2)) := by
  rw [newS_eq]
  rcases Nat.mod_two_eq_zero_or_one i with hm | hm
  ·have hm2 : (i + 1) % 2 = 1 := by omega
   rw [hm] at m1
   rw [hm2] at m2 h3
   have m1 : lookS (saveS S (i + 1) xs) 0 = some (snE (i + 1) xs) := m1
   have m2 : lookS (saveS S (i + 1) xs) 16 = lookS S 16 := m2
   rw [m1, m2, hm]
   rcases ho : lookS S 16 with _ | e
   ·rfl
   ·have := h3 e ho
    show (if i + 1 < e.2.1 then _ else _) = _
    rw [if_neg Z64]; rfl
  ·have hm2 : (i + 1) % 2 = 0 := by omega
   rw [hm] at m1
   rw [hm2] at m2 h3
   have m1 : lookS (saveS S (i + 1) xs) 16 = some (snE (i + 1) xs) := m1
   have m2 : lookS (saveS S (i + 1) xs) 0 = lookS S 0 := m2
   rw [m1, m2, hm]
   rcases ho : lookS S 0 with _ | e
   ·rfl
   ·have := h3 e ho
    show (if e.2.1 < i + 1 then _ else _) = _
    rw [if_pos Z64]
 refine ⟨⟨by omega, ?_, fun e he => ?_, fun s hs h87 => ?_, .inr ⟨xs, ?_⟩⟩, loadE_some hn⟩
 ·rw [atS_some hn]
  show (if 16 * (i % 2) = 0 then 16 else 0) = _
  split <;> omega
 ·rw [show (i + 1 + 1) % 2 = i % 2 by omega, m1] at he
  cases he
  show i + 1 < i + 1 + 1
  omega
 ·rw [save_get Z64 hx (at2 := 16 * ((i + 1) % 2)) Z64 Z64 Z64] at hs
  rcases h5 with ⟨rfl, _, _, hz⟩ | ⟨x, hn5⟩
  ·exact absurd h87 (hz s hs)
  ·obtain ⟨s', hs', hh⟩ := look_head2 hn5
   rw [hs'] at hs
   injection hs with hs; subst hs
   rw [hh.2]; exact Nat.lt_succ_self i
 ·rw [show 16 * ((i + 1 + 1) % 2) = 16 * (i % 2) by omega]
  exact m1
theorem newS_congr {S S' : List Sec} (h : ∀ j, j < 32 → S'[j]? = S[j]?) : newS S' = newS S := by
 rw [newS_eq, newS_eq, look_congr2 (S := S) (S' := S') (at_ := 0) (fun j _ h2 => h j Z64), look_congr2 (S := S) (S' := S') (at_ := 16) (fun j _ h2 => h j Z64)]
theorem TK.congr {S S' : List Sec} {i : Nat} (h : TK S i) (hl : 32 ≤ S'.length) (hs : ∀ j, j < 32 → S'[j]? = S[j]?) : TK S' i ∧ loadE S' = loadE S := by
 have hn := newS_congr hs
 have hl1 : ∀ p, p < 2 → lookS S' (16 * p) = lookS S (16 * p) := fun p hp => look_congr2 fun j h1 h2 => hs j Z64
 obtain ⟨h1, h2, h3, h4, h5⟩ := h
 have hm := Nat.mod_lt i (show 0 < 2 by decide)
 have hm2 := Nat.mod_lt (i + 1) (show 0 < 2 by decide)
 refine ⟨⟨hl, ?_, ?_, ?_, ?_⟩, by unfold loadE; rw [hn]⟩
 ·unfold atS at h2 ⊢; rw [hn]; exact h2
 ·rw [hl1 _ hm2]; exact h3
 ·rw [hs _ Z64]; exact h4
 ·rcases h5 with ⟨a, b, c, d⟩ | ⟨x, hx⟩
  ·refine .inl ⟨a, ?_, ?_, ?_⟩
   ·have := hl1 0 Z63; rw [Nat.mul_zero] at this; rw [this]; exact b
   ·have := hl1 1 Z63; rw [Nat.mul_one] at this; rw [this]; exact c
   ·rw [hs 16 Z63]; exact d
  ·exact .inr ⟨x, by rw [hl1 _ hm2]; exact hx⟩
structure SSt where
 S : List Sec
 ep : Nat
 c0 : ConfC
 Ls : List (List EditC)
 c : ConfC
 k : Nat
abbrev regS (S : List Sec) : List Sec := S.drop 32
structure SI (m : Nat) (s : SSt) : Prop where
 len : s.S.length = m
 m40 : 40 ≤ m
 tk : TK s.S s.ep
 ld : loadE s.S = (s.ep, cfgB s.c0, 0)
 g0 : goodP s.c0
 ok0 : OkC s.c0
 oks : ∀ l ∈ s.Ls, okEds l ∧ ∀ x ∈ l, Flat.ok x
 rep : replF s.c0 s.Ls = some s.c
 gc : goodP s.c
 okc : OkC s.c
 ji : JI (regS s.S) s.ep (s.Ls.map edsB) s.k
 fresh : ∀ e, s.ep < e → noHead e (regS s.S)
theorem SI.reg {m : Nat} {s : SSt} (h : SI m s) : (regS s.S).length = m - 32 := by
 show (s.S.drop 32).length = _
 rw [List.length_drop, h.len]
theorem SI.kle {m : Nat} {s : SSt} (h : SI m s) : s.k ≤ m - 32 := by have := h.ji.kle; rw [h.reg] at this; exact this
theorem SI.many {m : Nat} {s : SSt} (h : SI m s) : s.Ls.length ≤ s.k := by have := h.ji.many; rwa [List.length_map] at this
theorem reg_save {S : List Sec} {a : Nat} {xs : List UInt8} (hS : 32 ≤ S.length) (hx : xs.length ≤ 993) : regS (saveS S a xs) = regS S := by
 have h1 := atS_or S
 have h2 := (encE_sn (a := a) hx).1
 refine List.ext_getElem? fun i => ?_
 rw [List.getElem?_drop, List.getElem?_drop]
 unfold saveS
 rw [putS_get Z64, if_neg Z64, if_neg Z64]
theorem reg_put {S l : List Sec} {k : Nat} (h : 32 + k + l.length ≤ S.length) : regS (putS S (32 + k) l) = putS (regS S) k l := by
 have hr : (regS S).length = S.length - 32 := List.length_drop
 refine List.ext_getElem? fun i => ?_
 rw [List.getElem?_drop, putS_get Z64, putS_get Z64]
 rcases Nat.lt_or_ge i k with h1 | h1
 ·rw [if_pos Z64, if_pos h1, List.getElem?_drop]
 ·rw [if_neg Z64, if_neg (by omega : ¬ i < k)]
  rcases Nat.lt_or_ge i (k + l.length) with h2 | h2
  ·rw [if_pos Z64, if_pos h2, show 32 + i - (32 + k) = i - k by omega]
  ·rw [if_neg Z64, if_neg Z64, List.getElem?_drop]
def firstSt (m p : Nat) : SSt := ⟨saveS (List.replicate m zeroSec) 1 (cfgB (firstC p)), 1, firstC p, [], firstC p, 0⟩
theorem firstSt_ok {m p : Nat} (hm : 40 ≤ m) (h1 : 1 ≤ p) (h8 : p ≤ 8) : SI m (firstSt m p) := by
 have hg := firstC_good p h1 h8
 have hsm := cfgB_small hg
 have hl : (List.replicate m zeroSec).length = m := List.length_replicate
 obtain ⟨t1, t2⟩ := (TK.zero (m := m) Z64).next (xs := cfgB (firstC p)) Z63 hsm
 have hrg : regS (saveS (List.replicate m zeroSec) 1 (cfgB (firstC p))) = List.replicate (m - 32) zeroSec := by
  rw [reg_save Z64 hsm]
  show (List.replicate m zeroSec).drop 32 = _
  rw [List.drop_replicate]
 refine ⟨by show (saveS _ _ _).length = m; rw [save_len Z64 hsm, hl], hm, t1, t2, hg, firstC_ok p h8, (fun l hl => by cases hl), rfl, hg, firstC_ok p h8, ?_, fun e he => ?_⟩
 ·show JI (regS (saveS _ _ _)) 1 [] 0
  rw [hrg]; exact JI.begin noHead_zero
 ·show noHead e (regS (saveS _ _ _))
  rw [hrg]; exact noHead_zero
def saveSt (s : SSt) : SSt := ⟨saveS s.S (s.ep + 1) (cfgB s.c), s.ep + 1, s.c, [], s.c, 0⟩
theorem saveSt_ok {m : Nat} {s : SSt} (h : SI m s) (he : s.ep < 4294967290) : SI m (saveSt s) := by
 have hsm := cfgB_small h.gc
 have hl := h.len
 have hm := h.m40
 obtain ⟨t1, t2⟩ := h.tk.next (xs := cfgB s.c) Z64 hsm
 have hrg : regS (saveS s.S (s.ep + 1) (cfgB s.c)) = regS s.S := reg_save Z64 hsm
 refine ⟨by show (saveS _ _ _).length = m; rw [save_len Z64 hsm, hl], hm, t1, t2, h.gc, h.okc, (fun l hl => by cases hl), rfl, h.gc, h.okc, ?_, fun e he => ?_⟩
 ·show JI (regS (saveS _ _ _)) (s.ep + 1) [] 0
  rw [hrg]; exact JI.begin (h.fresh _ (Nat.lt_succ_self _))
 ·show noHead e (regS (saveS _ _ _))
  have he : s.ep + 1 < e := he
  rw [hrg]; exact h.fresh e Z64
def appSt (s : SSt) (l : List EditC) : SSt := ⟨putS s.S (32 + s.k) (encE (jouE s.ep s.Ls.length (edsB l))), s.ep, s.c0, s.Ls ++ [l], (edF s.c l).1, s.k + needM (edsB l).length⟩
theorem appSt_ok {m : Nat} {s : SSt} (h : SI m s) {l : List EditC} (he : (edF s.c l).2 = 0) (hl : okEds l) (hf : ∀ x ∈ l, Flat.ok x) (hep : s.ep < 4294967296) (hfit : needM (edsB l).length ≤ m - 32 - s.k) : SI m (appSt s l) := by
 have hlen := h.len
 have hm := h.m40
 have hk := h.kle
 have hsm := edsB_small hl.1
 have hE : (encE (jouE s.ep s.Ls.length (edsB l))).length = needM (edsB l).length := encE_len (jouE s.ep s.Ls.length (edsB l)) (show (edsB l).length ≤ 4000 by omega)
 have hput : (putS s.S (32 + s.k) (encE (jouE s.ep s.Ls.length (edsB l)))).length = s.S.length := putS_len Z64
 obtain ⟨t1, t2⟩ := h.tk.congr (S' := putS s.S (32 + s.k) (encE (jouE s.ep s.Ls.length (edsB l)))) Z64 (fun j hj => by rw [putS_get Z64, if_pos Z64])
 have hrg := reg_put (S := s.S) (k := s.k) (l := encE (jouE s.ep s.Ls.length (edsB l))) Z64
 have hok := edF_ok he
 refine ⟨hput.trans hlen, hm, t1, t2.trans h.ld, h.g0, h.ok0, fun y hy => ?_, replF_snoc l s.Ls s.c0 s.c h.rep he, by show goodP (edF s.c l).1; rw [hok.2.2.2.2]; exact hok.2.2.2.1, editR_ok (edF_R s.c l) h.okc hf, ?_, fun e he => ?_⟩
 ·rcases List.mem_append.1 hy with hy | hy
  ·exact h.oks y hy
  ·obtain rfl := List.mem_singleton.1 hy; exact ⟨hl, hf⟩
 ·show JI (regS (putS s.S (32 + s.k) _)) s.ep ((s.Ls ++ [l]).map edsB) (s.k + needM (edsB l).length)
  rw [hrg, List.map_append]
  have := h.ji.append (x := edsB l) Z64 (e := jouE s.ep s.Ls.length (edsB l)) (by rw [List.length_map]) (by rw [h.reg]; omega)
  rw [hE] at this
  exact this
 ·show noHead e (regS (putS s.S (32 + s.k) _))
  have he : s.ep < e := he
  rw [hrg]
  exact noHead_put (h.fresh e he) (noHead_enc _ hep (show s.ep ≠ e by omega))
def commR (m : Nat) (s : SSt) (l : List EditC) : Int × SSt :=
 if (edF s.c l).2 ≠ 0 then ((edF s.c l).2, s) else if ¬ okEds l then (11, s)
 else if needM (edsB l).length ≤ m - 32 - s.k then (0, appSt s l)
 else if needM (edsB l).length ≤ m - 32 then (0, appSt (saveSt s) l) else (12, saveSt s)
theorem commR_ok {m : Nat} {s : SSt} (h : SI m s) {l : List EditC} (hf : ∀ x ∈ l, Flat.ok x) (hep : s.ep < 4294967290) : SI m (commR m s l).2 ∧ s.ep ≤ (commR m s l).2.ep ∧ (commR m s l).2.ep ≤ s.ep + 1 ∧ (commR m s l).2.c = (if (commR m s l).1 = 0 then (edF s.c l).1 else s.c) ∧ ((commR m s l).1 = 0 → (edF s.c l).2 = 0 ∧ okEds l) := by
 unfold commR
 by_cases h1 : (edF s.c l).2 ≠ 0
 ·rw [if_pos h1]; exact ⟨h, Nat.le_refl _, Nat.le_succ _, by rw [if_neg h1], fun h0 => absurd h0 h1⟩
 ·rw [if_neg h1]
  have h1 : (edF s.c l).2 = 0 := Classical.not_not.1 h1
  by_cases h2 : okEds l
  ·rw [if_neg (fun k => k h2)]
   by_cases h3 : needM (edsB l).length ≤ m - 32 - s.k
   ·rw [if_pos h3]
    exact ⟨appSt_ok h h1 h2 hf Z64 h3, Nat.le_refl _, Nat.le_succ _, by rw [if_pos rfl]; rfl, fun _ => ⟨h1, h2⟩⟩
   ·rw [if_neg h3]
    by_cases h4 : needM (edsB l).length ≤ m - 32
    ·rw [if_pos h4]
     refine ⟨appSt_ok (saveSt_ok h hep) h1 h2 hf (by show s.ep + 1 < _; omega) (by show _ ≤ m - 32 - 0; omega), Nat.le_succ _, Nat.le_refl _, by rw [if_pos rfl]; rfl, fun _ => ⟨h1, h2⟩⟩
    ·rw [if_neg h4]
     exact ⟨saveSt_ok h hep, Nat.le_succ _, Nat.le_refl _, by rw [if_neg (show ¬ (12 : Int) = 0 by decide)]; rfl, fun h0 => absurd h0 (show ¬ (12 : Int) = 0 by decide)⟩
  ·rw [if_pos h2]; exact ⟨h, Nat.le_refl _, Nat.le_succ _, by rw [if_neg (show ¬ (11 : Int) = 0 by decide)], fun h0 => absurd h0 (show ¬ (11 : Int) = 0 by decide)⟩
theorem SI.ports {m : Nat} {s : SSt} (h : SI m s) : s.c.2.2.2.1.length = s.c0.2.2.2.1.length := replF_ports _ _ _ h.rep
theorem commR_ports {m : Nat} {s : SSt} (h : SI m s) {l : List EditC} (hf : ∀ x ∈ l, Flat.ok x) (hep : s.ep < 4294967290) : (commR m s l).2.c.2.2.2.1.length = s.c.2.2.2.1.length := by
 obtain ⟨_, _, _, h4, h5⟩ := commR_ok h hf hep
 rw [h4]
 split
 ·rename_i h0
  exact edF_ports (h5 h0).1
 ·rfl
abbrev plcC (g from_ to_ : Nat) : List Value := [.pointer (some ⟨g, 0, none⟩), .int .i64 (from_ : Int), .int .i64 (to_ : Int)]
theorem sectors_spec (D : Nat → Prop) (w : World) (g from_ to_ at_ N : Nat) (S T : List Sec) (hto : to_ ≤ S.length) (hS : S.length ≤ 100000) (hN : at_ + N = to_) (hT : T = (S.drop at_).take N) (H : Own D w w [dsk g S []]) :
  Calls Tryz.prog 78 #[.agg (plcC g from_ to_).toArray, .int .i64 (at_ : Int)] w fun e w' => ∃ q : Option Addr × Nat, e = .returned (.slice q.1 N q.2) ∧ Own D w w' [row q.1 61 64 N q.2 (T.flatMap secC), dsk g S []] := by
 refine hc_enter (vs := [.agg (plcC g from_ to_).toArray, .int .i64 (at_ : Int)]) Tryz.func78 rfl _ Tryz.ntmps78 rfl H ?_
 simp only [argSlots, Nat.zero_add]
 refine zg <| hl_new (on_boxG (cs := plcC g from_ to_) rfl) rfl rfl rfl (fun b2 => ?_)
 refine zs rfl <| zn <| zg <| zs rfl <| zn <| hc_seq <| hc_block <| hc_loopK2 (σ := Nat × Option Addr × Nat) [2] rfl 1 (fun s => .int .i64 ((at_ + s.1 : Nat) : Int)) 5 (fun s => .slice s.2.1 s.1 s.2.2) (fun s => [row s.2.1 61 64 s.1 s.2.2 (((S.drop at_).take s.1).flatMap secC), dsk g S [], blk b2 167 (plcC g from_ to_)]) (fun s => s.1 ≤ N) (fun s => N - s.1) ((0, none, 0)) (Nat.zero_le _) rfl rfl (Ent.trans (Ent.nil_row 61 64) Z3) ?_
 rintro ⟨k, ql⟩ hkN K1 hK1
 dsimp only at hkN ⊢
 refine hc_seq <| zg <| zm rfl <| zf rfl <| zl rfl rfl <| ?_
 refine zv (ov_lss rfl rfl) <| zn <| hc_cond rfl (fun h2 => ?_) (fun h2 => ?_)
 ·have hk : k < N := by omega
  have hi : at_ + k < S.length := by omega
  have hst : (S.drop at_).take (k + 1) = (S.drop at_).take k ++ [S[at_ + k]] := by
   rw [List.take_succ_eq_append_getElem Z40, List.getElem_drop]
  obtain ⟨s, hs⟩ : ∃ s, s = S[at_ + k] := ⟨_, rfl⟩
  rw [← hs] at hst
  refine zk <| hc_seq <| hc_block <| zg <| zf rfl <| zl rfl rfl <| zm rfl <| ?_
  refine hl_c Tryz.call35 rfl rfl (fun w1 => zp (dsk g S []) fun D' _ _ H2 => (Read_ok D' w1 g (at_ + k) S [] hi H2).mono fun e w' ⟨he, H'⟩ => ⟨show e = Ending.returned (.tuple #[.agg (secC s).toArray, .int .i64 0]) by rw [he, hs]; rfl, H'⟩) ?_
  refine zm rfl <| zx rfl rfl <| zx rfl rfl <| hl_new (on_alloc) rfl rfl rfl fun b6 =>  ?_
  refine hl_u0 (on_storeW (vs := secC s) rfl rfl Z56 Z56 (secC_one s)) rfl rfl ?_
  refine zs rfl <| zn <| hc_seq <| zg <| zm rfl <| zv (ov_neq rfl rfl) <| zn <| hc_cond_F rfl ((fun h => h rfl)) <| zk <| hc_region <| zm rfl <| hl_v (ov_loadW rfl (secC_len s)) rfl <| hl_new (on_buildSlice (res := secC s) rfl rfl (fill_sec1 _)) rfl rfl rfl (fun b37 => ?_)
  refine hl_new (on_appendR (A := ql.1) (news := secC s) rfl rfl (SrcIs.blk (b := b37)) Z57 (secC_one _) Z63 Z64) rfl rfl rfl (fun qm => ?_)
  rw [show ((S.drop at_).take k).flatMap secC ++ secC s = ((S.drop at_).take (k + 1)).flatMap secC by rw [hst, List.flatMap_append, List.flatMap_singleton]]
  refine zs rfl <| hl_nil <| zb <| zt <| hc_region <| zm rfl <| hl_v (ov_add (m := ((at_ + (k + 1) : Nat) : Int)) rfl rfl ((wrap_i64 Z64).trans Z64)) rfl ?_
  refine zs rfl <| hl_nil <| hx_next hK1 ((k + 1, qm)) (hk) Z64 Z16 Z10
 obtain rfl : k = N := by omega
 rw [← hT]
 refine hc_exit <| ze <| ze <| hx_block_out <| zt <| hc_seq <| hc_region <| zm rfl <| zs rfl <| zn <| zq <| ?_
 exact zz rfl rfl fun w' H' => ⟨ql, rfl, H'.ent Z8⟩
set_option maxHeartbeats 1000000 in
theorem jput_spec (D : Nat → Prop) (w : World) (g from_ to_ at_ n : Nat) (S L : List Sec) (v : Value) (hS : S.length ≤ 100000) (hl0 : 0 < L.length) (hn : n = L.length) (hfit : at_ + L.length ≤ S.length) (HA : Old D w (Rep.rep L [v])) (H : Own D w w [dsk g S []]) :
  Calls Tryz.prog 100 #[.agg (plcC g from_ to_).toArray, .int .i64 (at_ : Int), v] w fun e w' => e = .returned (.int .i64 0) ∧ Own D w w' [dsk g (putS S at_ L) []] := by
 obtain ⟨A, cap, rfl, hA1, hA2, HS, HR⟩ := HA.openS
 obtain ⟨x0, r, hLr⟩ : ∃ x r, L = x :: r := by
  cases L with
  | nil => simp at hl0
  | cons x r => exact ⟨x, r, rfl⟩
 have hrl : r.length = L.length - 1 := by rw [hLr, List.length_cons]; omega
 have hA := flat_isA HS (k := 0) hl0
 have hL0 : L[0] = x0 := by simp only [hLr, List.getElem_cons_zero]
 obtain ⟨ba, off, rfl⟩ : ∃ b off, A = some ⟨b, off, none⟩ := ⟨_, _, hA⟩
 obtain ⟨A1, hAe⟩ : ∃ A1 : Option Addr, A1 = if cap = 1 then some ⟨ba, off, none⟩ else (some ⟨ba, off, none⟩ : Option Addr).map (·.add (1 * 64)) := ⟨_, rfl⟩
 refine hc_enter (vs := [.agg (plcC g from_ to_).toArray, .int .i64 (at_ : Int), .slice (some ⟨ba, off, none⟩) L.length cap]) Tryz.func100 rfl _ Tryz.ntmps100 rfl H ?_
 simp only [argSlots, Nat.zero_add]
 refine zg <| hl_new (on_boxG (cs := plcC g from_ to_) rfl) rfl rfl rfl (fun b3 => ?_)
 refine zs rfl <| zn <| hc_seq <| zg <| zm rfl <| hl_v (ov_sl (.slice A1 (L.length - 1) (cap - 1)) rfl 1 L.length (.inr ⟨_, _, rfl, rfl⟩) (.inl ⟨rfl, rfl⟩) Z64 Z64 (by rw [hAe])) rfl ?_
 refine zv Z25 <| ?_
 refine zm rfl <| zn <| hc_block <| hc_loopK1 (σ := Nat) [1, 2, 3, 13, 14] rfl 15 (fun i => .int .i64 (i : Int)) (fun i => [dsk g S (PW (at_ + 1) r i), blk b3 167 (plcC g from_ to_)]) (fun i => i ≤ r.length) (fun i => r.length - i) (0) (Nat.zero_le _) rfl (show Ent _ [dsk g S [], blk b3 167 (plcC g from_ to_)] from Z8) ?_
 rintro i hi K1 hK1
 refine zg <| zv (ov_lss rfl rfl) <| zn <| hc_seq <| hc_cond rfl (fun h => ?_) (fun h => ?_)
 ·have hir : i < r.length := by omega
  have hli : i + 1 < L.length := by omega
  have hLi : L[i + 1] = r[i] := by simp only [hLr, List.getElem_cons_succ]
  have hAv : A1 = some ⟨ba, off + 1 * 64, none⟩ := by rw [hAe, if_neg Z64]; rfl
  have hA1i : isA A1 := by rw [hAv]; rfl
  have hcx : ∀ l', CellsAre D w l' (ab A1) (ao A1 + i * 64) (secC r[i]) := fun l' => by
   have := cells_sec HS hli l'
   rw [hLi] at this
   rw [hAv]
   show CellsAre D w l' ba (off + 1 * 64 + i * 64) _
   rw [show off + 1 * 64 + i * 64 = off + (i + 1) * 64 by omega]
   exact this
  refine zk <| hc_seq <| hc_block <| zg <| zm rfl <| hl_v (ov_idxS (A := A1) rfl hA1i rfl i rfl Z64) rfl ?_
  refine hl_v (ov_loadG (cs := secC r[i]) rfl (secC_len _) (hcx _)) rfl <| hl_new (on_alloc) rfl rfl rfl fun b8 =>
   zs rfl <| ?_
  refine hl_u0 (on_storeW (vs := secC r[i]) rfl rfl Z56 Z56 (secC_one _)) rfl rfl ?_
  refine zn <| zg <| zf rfl <| zl rfl rfl <| ?_
  refine zm rfl <| zv (ov_add rfl rfl Z28) <| ?_
  refine zm rfl <| hl_v (ov_add (m := ((at_ + 1 + i : Nat) : Int)) rfl rfl ((wrap_i64 Z64).trans Z64)) rfl ?_
  refine hl_v (ov_loadW rfl (secC_len _)) rfl <| hl_c Tryz.call23 rfl rfl (fun w1 => zp (dsk g S (PW (at_ + 1) r i)) fun D' _ _ H2 => Write_ok D' w1 g (at_ + 1 + i) r[i] S (PW (at_ + 1) r i) Z64 (by have := PW_len (at_ := at_ + 1) (l := r) (i := i); omega) H2) ?_
  rw [← PW_succ hir]
  refine zs rfl <| zn <| zg <| zm rfl <| zv (ov_neq rfl rfl) <| zn <| hc_cond_F rfl ((fun h => h rfl)) <| hc_skip <| zb <| zt <| hc_region <| zv (ov_add rfl rfl Z28) <| ?_
  refine zm rfl <| hl_nil <| hx_next hK1 (i + 1) (hir) Z64 Z16 Z10
 obtain rfl : i = r.length := by omega
 refine hc_exit <| ze <| ze <| hx_block_out <| zt <| hc_seq <| zg <| zf rfl <| zl rfl rfl <| ?_
 refine hl_c Tryz.call24 rfl rfl (fun w1 => zp (dsk g S (PW (at_ + 1) r r.length)) fun D' _ _ H2 => (Flush_spec D' w1 g S (PW (at_ + 1) r r.length) (PW_lt Z64) H2)) ?_
 rw [PW_done Z64]
 have hpl2 : (putS S (at_ + 1) r).length = S.length := putS_len Z64
 refine zs rfl <| zn <| zg <| zm rfl <| zv (ov_neq rfl rfl) <| zn <| hc_cond_F rfl ((fun h => h rfl)) <| zk <| hc_seq <| hc_seq <| hc_tail 6 mixed Z61 ?_
 refine ht_v (ov_fieldA rfl) rfl <| ht_v (zw rfl rfl) rfl <| ht_v (ov_move rfl) rfl <| ht_v (ov_move rfl) rfl <| ?_
 refine ht_v (ov_idxSc rfl hA rfl rfl Z64) rfl ?_
 refine ht_v (ov_loadG (cs := secC x0) rfl (secC_len _) (by rw [← hL0]; exact cells_sec HS hl0 _)) rfl ?_
 refine ht_nil <| ?_
 refine hl_c Tryz.call23 rfl rfl (fun w1 => zp (dsk g (putS S (at_ + 1) r) []) fun D' _ _ H2 => Write_ok D' w1 g at_ x0 (putS S (at_ + 1) r) [] Z64 Z63 H2) ?_
 refine zs rfl <| zn <| zg <| zm rfl <| zv (ov_neq rfl rfl) <| zn <| hc_cond_F rfl ((fun h => h rfl)) <| zk <| zg <| zf rfl <| zl rfl rfl <| ?_
 have hfin : settleL (fun _ => true) 0 (putS S (at_ + 1) r) [(at_, x0)] = putS S at_ L := by
  rw [hLr, ← put_first (by rw [← hLr]; exact hfit)]; rfl
 rw [List.nil_append]
 refine hl_c Tryz.call24 rfl rfl (fun w1 => zp (dsk g (putS S (at_ + 1) r) [(at_, x0)]) fun D' _ _ H2 => Flush_spec D' w1 g (putS S (at_ + 1) r) [(at_, x0)] (fun p hp => by obtain rfl := List.mem_singleton.1 hp; show at_ < _; omega) H2) ?_
 rw [hfin]
 refine zs rfl <| zn <| zq <| ?_
 exact zz rfl rfl fun w' H' => ⟨rfl, H'.ent Z8⟩
end Go.Proofs.YtjlolpmmpafjeaaGreat
set_option linter.unusedVariables false
namespace Slk
open Go
theorem Own.callp2 (A B : HProp) {P : Program} {f : Nat} {args : Array Value} {D : Nat → Prop} {w0 w : World} {l r r2 post : List HProp} {v : Value} [hp : Pick l A r] [hq : Pick r B r2] (H : Own D w0 w l)
  (hc : ∀ D', (∀ A, Old D w0 A → Old D' w A) → (∀ B : HProp, (∀ h, stars r2 h → (∀ A, Old D w0 A → ∃ h1, A h1 ∧ Hsub h1 h) → B h) → Old D' w B) → Own D' w w [A, B] → Calls P f args w fun e w' => e = .returned v ∧ Own D' w w' post) :
  Calls P f args w fun e w' => e = .returned v ∧ Own D w0 w' (post ++ r2) := Own.call (pre := [A, B]) (H.ent (Ent.perm (hp.out.trans (List.Perm.cons _ hq.out)))) hc
theorem Own.callpx3 (A B C : HProp) {P : Program} {f : Nat} {args : Array Value} {D : Nat → Prop} {w0 w : World} {l r r2 r3 : List HProp} {σ : Type} {post : σ → List HProp} {v : σ → Value} [hp : Pick l A r] [hq : Pick r B r2] [hs : Pick r2 C r3] (H : Own D w0 w l)
  (hc : ∀ D', (∀ A, Old D w0 A → Old D' w A) → (∀ B : HProp, (∀ h, stars r3 h → (∀ A, Old D w0 A → ∃ h1, A h1 ∧ Hsub h1 h) → B h) → Old D' w B) → Own D' w w [A, B, C] → Calls P f args w fun e w' => ∃ s, e = .returned (v s) ∧ Own D' w w' (post s)) :
  Calls P f args w fun e w' => ∃ s, e = .returned (v s) ∧ Own D w0 w' (post s ++ r3) := Own.callX (pre := [A, B, C]) (H.ent (Ent.perm (hp.out.trans (List.Perm.cons _ (hq.out.trans (List.Perm.cons _ hs.out)))))) hc
end Slk
