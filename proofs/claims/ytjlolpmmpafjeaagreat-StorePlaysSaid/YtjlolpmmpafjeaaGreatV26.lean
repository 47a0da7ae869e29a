import Derived.Test.YtjlolpmmpafjeaaGreatV25
set_option linter.unusedVariables false
set_option linter.unusedSimpArgs false
namespace Go.Proofs.YtjlolpmmpafjeaaGreat
open Slk
variable (D : Nat → Prop) (w : World)
abbrev rstoC (jb q : Nat) (s : SSt) (x : Three) : List Value := [.pointer (some ⟨q, 0, none⟩), .pointer (some ⟨jb, 0, none⟩), .int .i64 s.c.1, .int .i64 s.c.2.1, .int .i64 s.c.2.2.1, .slice x.1.1 s.c.2.2.2.1.length x.1.2, .slice x.2.1.1 s.c.2.2.2.2.1.length x.2.1.2, .slice x.2.2.1 s.c.2.2.2.2.2.length x.2.2.2, .int .u32 (s.ep : Int)]
def rstoL (tb q m : Nat) (s : SSt) (x : Nat × Three) : List HProp := blk tb 52 (rstoC x.1 q s x.2) :: rjou x.1 q 32 m s.ep (32 + s.k) (s.Ls.map edsB) :: cfgR s.c x.2
def rsto (tb q m : Nat) (s : SSt) : HProp := exS (rstoL tb q m s)
theorem rsto_mk {tb q m : Nat} {s : SSt} {l : List HProp} (jb : Nat) (x : Three) : Ent (blk tb 52 (rstoC jb q s x) :: rjou jb q 32 m s.ep (32 + s.k) (s.Ls.map edsB) :: (cfgR s.c x ++ l)) (rsto tb q m s :: l) := Ent.exS (L := rstoL tb q m s) (l := l) (jb, x)
set_option maxHeartbeats 1000000 in
theorem SRSave_spec (tb q m : Nat) (s : SSt) (h : SI m s) (hm2 : m ≤ 100000) (hep : s.ep < 4294967290) (H : Own D w w [rsto tb q m s, rdsk q s.S []]) : Calls Tryz.prog 33 #[.pointer (some ⟨tb, 0, none⟩)] w fun e w' => e = .returned (.int .i64 0) ∧ Own D w w' [rsto tb q m (saveSt s), rdsk q (saveSt s).S []] := by
 have hlen := h.len
 have hm := h.m40
 have hsm := cfgB_small h.gc
 obtain ⟨s2, hs2⟩ : ∃ s2, s2 = saveSt s := ⟨_, rfl⟩
 have h1 : s2.S = saveS s.S (s.ep + 1) (cfgB s.c) := by rw [hs2]; rfl
 have h2 : s2.ep = s.ep + 1 := by rw [hs2]; rfl
 have h3 : s2.c = s.c := by rw [hs2]; rfl
 have h4 : s2.k = 0 := by rw [hs2]; rfl
 have h5 : s2.Ls = [] := by rw [hs2]; rfl
 have hr : ∀ jb, rjou jb q 32 m s2.ep (32 + s2.k) (s2.Ls.map edsB) = rjou jb q 32 m s2.ep 32 [] := fun jb => by rw [h4, h5]; rfl
 rw [← hs2]
 refine hc_enter (vs := [.pointer (some ⟨tb, 0, none⟩)]) Tryz.func33 rfl _ Tryz.ntmps33 rfl H ?_
 simp only [argSlots, Nat.zero_add]
 refine HC.exs ?_
 rintro ⟨jb, x⟩
 refine HC.ent (l' := blk tb 52 (rstoC jb q s x) :: rjou jb q 32 m s.ep (32 + s.k) (s.Ls.map edsB) :: (cfgR s.c x ++ [rdsk q s.S []])) (fun _ h => h) ?_
 refine zg <| zs rfl <| zn <| hc_seq <| hc_region <| zm rfl <| zv (ov_nil rfl) <| zf rfl <| ?_
 refine hl_v (ov_loadGB (vs := cfgA s.c x) rfl rfl) rfl <| hl_call (σ := Option Addr × Nat) Tryz.call51 rfl rfl (fun w1 => zu fun D' _ hin _ => RConfig_g D' w1 s.c _ _ _ h.gc (ConfOld.rows (q := x) h.okc hin)) ?_
 intro qb
 try rw [List.nil_append]
 refine zm rfl <| zx rfl rfl <| zx rfl rfl <| zs rfl <| zs rfl <| hl_nil <| zt <| hc_seq <| hc_seq <| hc_any [blk tb 52 (rstoC jb q s x)] mixed 12 rfl ?_
 refine ha_v 0 rfl (ov_move rfl) rfl <| ha_v 1 rfl (ov_nil rfl) rfl <| ha_v 2 rfl (ov_fieldA rfl) rfl <| ha_v 3 rfl (zw rfl rfl) rfl <| ha_v 4 rfl (ov_move rfl) rfl <| ha_v 5 rfl (ov_nil rfl) rfl <| ha_v 6 rfl (ov_fieldA rfl) rfl <| ha_v 7 rfl (zw rfl rfl) rfl <| ha_v 9 rfl (ov_move rfl) rfl <| ha_one 8 Z61 <| ho_v rfl (ov_add (m := ((s.ep + 1 : Nat) : Int)) rfl rfl ((wrap_u32 Z64).trans Z64)) rfl ?_
 refine ha_one 10 Z61 <| ho_k rfl Tryz.call52 rfl (fun w1 => zp (rdsk q s.S []) fun D' _ hin H2 => (RSave_ok D' w1 q s.S (s.ep + 1) _ (cfgB s.c) Z64 Z64 Z64 hsm (hin _ fun h hs ho => rep_row (A := qb.1) hs (cfgB s.c) rfl (repL_bytes.2 rfl)) H2).mono fun e w' ⟨he, H'⟩ => ⟨he, show Own D' w1 w' [rdsk q s2.S []] by rw [h1]; exact H'⟩) ?_
 refine ha_v 11 rfl (ov_assign rfl) rfl <| ha_done Z61 <| zt <| zg <| zm rfl <| zv (ov_neq rfl rfl) <| ?_
 refine zn <| hc_cond_F rfl ((fun h => h rfl)) <| zk <| zg <| zm rfl <| zv (ov_nil rfl) <| zf rfl <| zl rfl rfl <| ?_
 refine hl_v (ov_add (m := ((s.ep + 1 : Nat) : Int)) rfl rfl ((wrap_u32 Z64).trans Z64)) rfl ?_
 refine zv (ov_nil rfl) <| zf rfl <| hl_u0 (on_storeN rfl rfl rfl rfl rfl) rfl rfl <| zn <| hc_seq <| ?_
 rw [← h2, ← h3]
 refine HC.ent (l' := blk tb 52 (rstoC jb q s2 x) :: rdsk q s2.S [] :: rjou jb q 32 m s.ep (32 + s.k) (s.Ls.map edsB) :: cfgR s2.c x) Z8 ?_
 refine hc_any [blk tb 52 (rstoC jb q s2 x)] mixed 9 rfl ?_
 refine ha_v 0 rfl (ov_move rfl) rfl <| ha_v 1 rfl (ov_nil rfl) rfl <| ha_v 2 rfl (ov_fieldA rfl) rfl <| ha_v 3 rfl (zw rfl rfl) rfl <| ha_v 4 rfl (ov_move rfl) rfl <| ha_v 5 rfl (ov_nil rfl) rfl <| ha_v 6 rfl (ov_fieldA rfl) rfl <| ha_v 7 rfl (zw rfl rfl) rfl <| ha_one 8 Z61 <| ho_k rfl Tryz.call71 rfl (fun w1 => zp (rjou jb q 32 m s.ep (32 + s.k) (s.Ls.map edsB)) fun D' _ _ H2 => RNext_spec D' w1 jb q 32 m s.ep (32 + s.k) (s.Ls.map edsB) s2.ep H2) ?_
 refine ha_done Z61 <| zt <| zg <| zs rfl <| hl_nil <| ?_
 refine zt <| zq <| ?_
 exact zz rfl rfl fun w' H' => ⟨rfl, H'.ent (Ent.trans (b := blk tb 52 (rstoC jb q s2 x) :: rjou jb q 32 m s2.ep 32 [] :: (cfgR s2.c x ++ [rdsk q s2.S []])) Z8 (by rw [← hr]; exact rsto_mk (s := s2) jb x))⟩
theorem SROpen_nil (p : Int) : Calls Tryz.prog 18 #[.pointer none, .int .i64 p] w fun e w' => e = .returned (.tuple #[.pointer none, .int .i64 1]) ∧ Own D w w' [] := by
 refine hc_enter (vs := [.pointer none, .int .i64 p]) Tryz.func18 rfl _ Tryz.ntmps18 rfl (Own.start D w) ?_
 simp only [argSlots, Nat.zero_add]
 refine zg <| zs rfl <| zs rfl <| zn <| hc_seq <| zg <| zm rfl <| zv (ov_eqlP rfl rfl) <| zm rfl <| zo rfl rfl <| zo rfl rfl <| zo rfl rfl <| zo rfl rfl <| zo rfl rfl <| zo rfl rfl <| zv (ov_pickT rfl rfl) <| zm rfl <| zo rfl rfl <| zo rfl rfl <| zv (ov_pickT rfl rfl) <| zm rfl <| zo rfl rfl <| zo rfl rfl <| zv (ov_pickT rfl rfl) <| zn <| hc_cond_true rfl <| zg <| zs rfl <| zs rfl <| zn <| zq <| zr <| ?_
 exact results_2 (.inr rfl) rfl rfl rfl fun w' H' => ⟨rfl, H'⟩
theorem SROpen_no (q : Nat) (S : List Sec) (p : Int) (hbad : S.length < 40 ∨ p < 1 ∨ 8 < p) (H : Own D w w [rdsk q S []]) : Calls Tryz.prog 18 #[.pointer (some ⟨q, 0, none⟩), .int .i64 p] w fun e w' => e = .returned (.tuple #[.pointer none, .int .i64 1]) ∧ Own D w w' [rdsk q S []] := by
 refine hc_enter (vs := [.pointer (some ⟨q, 0, none⟩), .int .i64 p]) Tryz.func18 rfl _ Tryz.ntmps18 rfl H ?_
 simp only [argSlots, Nat.zero_add]
 refine HC.exs ?_
 rintro ⟨⟨A0, c0⟩, A1, c1⟩
 refine HC.ent (l' := [blk q 56 [.slice A0 S.length c0, .slice A1 0 c1], row A0 61 64 S.length c0 (S.flatMap secC), row A1 63 65 0 c1 []]) (fun _ h => h) ?_
 refine zg <| zs rfl <| zs rfl <| zn <| hc_seq <| zg <| zm rfl <| zv (ov_eqlP rfl rfl) <| zm rfl <| hl_on rfl rfl <| zm rfl <| hl_on rfl rfl <| zv (ov_nil rfl) <| hl_on rfl rfl <| zf rfl <| hl_on rfl rfl <| zl rfl rfl <| hl_on rfl rfl <| zv Z25 <| ?_
 refine hl_on rfl rfl <| zv (ov_lss rfl rfl) <| zv (ov_pickF rfl rfl) <| zm rfl <| hl_part (t := 28) rfl (fun c1 => ?_) (fun c1 => ?_)
 ·refine zo rfl rfl <| zo rfl rfl <| zv (ov_pickT rfl rfl) <| zm rfl <| zo rfl rfl <| zo rfl rfl <| zv (ov_pickT rfl rfl) <| zn <| hc_cond_true rfl <| zg <| zs rfl <| zs rfl <| zn <| zq <| zr <| ?_
  exact results_2 (.inr rfl) rfl rfl rfl fun w' H' => ⟨rfl, H'.ent (dsk_mk (P := []))⟩
 refine hl_on rfl rfl <| zm rfl <| hl_on rfl rfl <| zv (ov_lss rfl rfl) <| zv (ov_pickF rfl rfl) <| zm rfl <| hl_part (t := 32) rfl (fun c2 => ?_) (fun c2 => ?_)
 ·refine zo rfl rfl <| zo rfl rfl <| zv (ov_pickT rfl rfl) <| zn <| hc_cond_true rfl <| zg <| zs rfl <| zs rfl <| zn <| zq <| zr <| ?_
  exact results_2 (.inr rfl) rfl rfl rfl fun w' H' => ⟨rfl, H'.ent (dsk_mk (P := []))⟩
 refine hl_on rfl rfl <| zm rfl <| hl_on rfl rfl <| zv (ov_gtr rfl rfl) <| zv (ov_pickF rfl rfl) <| zn <| hc_cond_T rfl (Z64) ?_
 refine zg <| zs rfl <| zs rfl <| zn <| zq <| zr <| ?_
 exact results_2 (.inr rfl) rfl rfl rfl fun w' H' => ⟨rfl, H'.ent (dsk_mk (P := []))⟩
theorem SROpen_ports (q m : Nat) (s : SSt) (p : Nat) (h : SI m s) (h1 : 1 ≤ p) (h8 : p ≤ 8) (hne : s.c0.2.2.2.1.length ≠ p) (H : Own D w w [rdsk q s.S []]) : Calls Tryz.prog 18 #[.pointer (some ⟨q, 0, none⟩), .int .i64 (p : Int)] w fun e w' => e = .returned (.tuple #[.pointer none, .int .i64 11]) ∧ Own D w w' [rdsk q s.S []] := by
 have hlen := h.len
 have hm := h.m40
 obtain ⟨S, hS⟩ : ∃ S, S = s.S := ⟨_, rfl⟩
 have hld := h.ld
 rw [← hS] at H hlen hld ⊢
 refine hc_enter (vs := [.pointer (some ⟨q, 0, none⟩), .int .i64 (p : Int)]) Tryz.func18 rfl _ Tryz.ntmps18 rfl H ?_
 simp only [argSlots, Nat.zero_add]
 refine HC.exs ?_
 rintro ⟨⟨A0, c0⟩, A1, c1⟩
 refine HC.ent (l' := [blk q 56 [.slice A0 S.length c0, .slice A1 0 c1], row A0 61 64 S.length c0 (S.flatMap secC), row A1 63 65 0 c1 []]) (fun _ h => h) ?_
 refine zg <| zs rfl <| zs rfl <| zn <| hc_seq <| zg <| zm rfl <| zv (ov_eqlP rfl rfl) <| zm rfl <| hl_on rfl rfl <| zm rfl <| hl_on rfl rfl <| zv (ov_nil rfl) <| hl_on rfl rfl <| zf rfl <| hl_on rfl rfl <| zl rfl rfl <| hl_on rfl rfl <| zv Z25 <| ?_
 refine hl_on rfl rfl <| zv (ov_lss rfl rfl) <| zv (ov_pickF rfl rfl) <| zm rfl <| hl_partF (t := 28) rfl (Z64) ?_
 refine hl_on rfl rfl <| zm rfl <| hl_on rfl rfl <| zv (ov_lss rfl rfl) <| zv (ov_pickF rfl rfl) <| zm rfl <| hl_partF (t := 32) rfl (Z64) ?_
 refine hl_on rfl rfl <| zm rfl <| hl_on rfl rfl <| zv (ov_gtr rfl rfl) <| zv (ov_pickF rfl rfl) <| zn <| hc_cond_F rfl (Z64) ?_
 refine HC.ent (dsk_mk (P := [])) ?_
 refine zk <| zg <| zm rfl <| hl_call (σ := (Option Addr × Nat) × Int) Tryz.call50 rfl rfl (fun w1 => zpx (rdsk q S []) fun D' _ _ H2 => RLoad_old D' w1 q S s.ep (cfgB s.c0) hld Z64 H2) ?_
 intro qb
 refine hl_new (on_alloc) rfl rfl rfl fun b6 => 
  hl_u0 (on_storeGN rfl rfl rfl rfl rfl rfl) rfl rfl <| zn <| hc_seq <| hc_seq <| ?_
 refine hc_region <| zf rfl <| zl rfl rfl <| zv (ov_eql rfl rfl) <| zn <| ?_
 refine hc_cond_F rfl (Z63) ?_
 refine zk <| zg <| zf rfl <| zl rfl rfl <| ?_
 refine hl_call (σ := Three) Tryz.call53 rfl rfl (fun w1 => zu fun D' _ hin _ => RParse_g D' w1 _ s.c0 h.g0 (hin _ fun h hs ho => rep_row (A := qb.1.1) hs (cfgB s.c0) rfl (repL_bytes.2 rfl))) ?_
 intro qc
 try rw [List.nil_append]
 refine zm rfl <| zx rfl rfl <| zx rfl rfl <| hl_new (on_alloc) rfl rfl rfl fun b11 =>  ?_
 refine hl_u0 (on_storeW (vs := cfgA s.c0 qc) rfl rfl rfl (by simp) Z49) rfl rfl ?_
 refine zs rfl <| zn <| hc_seq <| zg <| zm rfl <| zv (ov_neq rfl rfl) <| zm rfl <| hl_partF (t := 64) rfl ((fun h => h rfl)) <| hl_on rfl rfl <| zf rfl <| hl_on rfl rfl <| zl rfl rfl <| hl_on rfl rfl <| zv Z25 <| ?_
 refine hl_on rfl rfl <| zm rfl <| hl_on rfl rfl <| zv (ov_neq rfl rfl) <| zv (ov_pickF rfl rfl) <| zn <| hc_cond_T rfl (Z64) ?_
 refine zg <| zs rfl <| zs rfl <| zn <| zq <| zr <| ?_
 exact results_2 (.inr rfl) rfl rfl rfl fun w' H' => ⟨rfl, H'.ent Z8⟩
theorem rep_elem {xs : List (List UInt8)} {cs : List Value} {h : Heap} (k : repL xs cs h) (i : Nat) {x : List UInt8} {v : Value} (hx : xs[i]? = some x) (hv : cs[i]? = some v) : Rep.rep x [v] h := by
 obtain ⟨h1, rfl⟩ := List.getElem?_eq_some_iff.1 hx
 obtain ⟨h2, rfl⟩ := List.getElem?_eq_some_iff.1 hv
 exact repL_get k rfl i h1 h2
theorem rowsB_cells {D : Nat → Prop} {w0 w : World} {l r : List HProp} {t : TypeId} {xs : List (List UInt8)} {cs : List Value} [h : Pick l (rowsB t xs cs) r] (H : Own D w0 w l) (hl : cs.length = xs.length) : ∀ (i : Nat) (x : List UInt8), xs[i]? = some x → ∃ (B : Option Addr) (cb : Nat), cs[i]? = some (Value.slice B x.length cb) := by
 intro i x hx
 obtain ⟨y, _, hs⟩ := H.own
 have hr := stars_rowsB (t := t) (xs := xs) (cs := cs) hs
 obtain ⟨h1, rfl⟩ := List.getElem?_eq_some_iff.1 hx
 have hv : cs[i]? = some (cs[i]'(by omega)) := List.getElem?_eq_getElem Z64
 obtain ⟨A, c, e, _⟩ := rep_elem hr i hx hv
 have e : [cs[i]'(by omega)] = [Value.slice A xs[i].length c] := e
 injection e with e _
 exact ⟨A, c, by rw [hv, e]⟩
set_option maxHeartbeats 2000000 in
theorem SROpen_old (q m : Nat) (s : SSt) (p : Nat) (h : SI m s) (hm2 : m ≤ 100000) (hep : s.ep < 4294967296) (h1 : 1 ≤ p) (h8 : p ≤ 8) (hp : s.c0.2.2.2.1.length = p) (H : Own D w w [rdsk q s.S []]) :
  Calls Tryz.prog 18 #[.pointer (some ⟨q, 0, none⟩), .int .i64 (p : Int)] w fun e w' => ∃ tb : Nat, e = .returned (.tuple #[.pointer (some ⟨tb, 0, none⟩), .int .i64 0]) ∧ Own D w w' [rsto tb q m s, rdsk q s.S []] := by
 have hlen := h.len
 have hm := h.m40
 have hk := h.kle
 have hmany := h.many
 have hreg := h.reg
 have hE : entsF s.ep (m - 32) 0 (regS s.S) = (s.Ls.map edsB, s.k) := by
  have := h.ji.open hep Z64
  rwa [hreg] at this
 have hT : regS s.S = (s.S.drop 32).take (m - 32) := by
  show s.S.drop 32 = _
  rw [List.take_of_length_le Z40]
 have hml : (s.Ls.map edsB).length = s.Ls.length := List.length_map _
 obtain ⟨S, hS⟩ : ∃ S, S = s.S := ⟨_, rfl⟩
 have hld := h.ld
 rw [← hS] at hld
 have hSl : S.length = m := by rw [hS]; exact hlen
 rw [← hS] at H
 refine hc_enter (vs := [.pointer (some ⟨q, 0, none⟩), .int .i64 (p : Int)]) Tryz.func18 rfl _ Tryz.ntmps18 rfl H ?_
 simp only [argSlots, Nat.zero_add]
 refine HC.exs ?_
 rintro ⟨⟨A0, c0⟩, A1, c1⟩
 refine HC.ent (l' := [blk q 56 [.slice A0 S.length c0, .slice A1 0 c1], row A0 61 64 S.length c0 (S.flatMap secC), row A1 63 65 0 c1 []]) (fun _ h => h) ?_
 refine zg <| zs rfl <| zs rfl <| zn <| hc_seq <| zg <| zm rfl <| zv (ov_eqlP rfl rfl) <| zm rfl <| hl_on rfl rfl <| zm rfl <| hl_on rfl rfl <| zv (ov_nil rfl) <| hl_on rfl rfl <| zf rfl <| hl_on rfl rfl <| zl rfl rfl <| hl_on rfl rfl <| zv Z25 <| ?_
 refine hl_on rfl rfl <| zv (ov_lss rfl rfl) <| zv (ov_pickF rfl rfl) <| zm rfl <| hl_partF (t := 28) rfl (Z64) ?_
 refine hl_on rfl rfl <| zm rfl <| hl_on rfl rfl <| zv (ov_lss rfl rfl) <| zv (ov_pickF rfl rfl) <| zm rfl <| hl_partF (t := 32) rfl (Z64) ?_
 refine hl_on rfl rfl <| zm rfl <| hl_on rfl rfl <| zv (ov_gtr rfl rfl) <| zv (ov_pickF rfl rfl) <| zn <| hc_cond_F rfl (Z64) ?_
 refine HC.ent (dsk_mk (P := [])) ?_
 refine zk <| zg <| zm rfl <| hl_call (σ := (Option Addr × Nat) × Int) Tryz.call50 rfl rfl (fun w1 => zpx (rdsk q S []) fun D' _ _ H2 => RLoad_old D' w1 q S s.ep (cfgB s.c0) hld Z64 H2) ?_
 intro qb
 refine hl_new (on_alloc) rfl rfl rfl fun b6 => 
  hl_u0 (on_storeGN rfl rfl rfl rfl rfl rfl) rfl rfl <| zn <| hc_seq <| hc_seq <| ?_
 refine hc_region <| zf rfl <| zl rfl rfl <| zv (ov_eql rfl rfl) <| zn <| ?_
 rw [hS]
 refine hc_cond_F rfl (Z63) ?_
 refine zk <| zg <| zf rfl <| zl rfl rfl <| ?_
 refine hl_call (σ := Three) Tryz.call53 rfl rfl (fun w1 => zu fun D' _ hin _ => RParse_g D' w1 _ s.c0 h.g0 (hin _ fun h hs ho => rep_row (A := qb.1.1) hs (cfgB s.c0) rfl (repL_bytes.2 rfl))) ?_
 intro qc
 try rw [List.nil_append]
 refine zm rfl <| zx rfl rfl <| zx rfl rfl <| hl_new (on_alloc) rfl rfl rfl fun b11 =>  ?_
 refine hl_u0 (on_storeW (vs := cfgA s.c0 qc) rfl rfl rfl (by simp) Z49) rfl rfl ?_
 refine zs rfl <| zn <| hc_seq <| zg <| zm rfl <| zv (ov_neq rfl rfl) <| zm rfl <| hl_partF (t := 64) rfl ((fun h => h rfl)) <| hl_on rfl rfl <| zf rfl <| hl_on rfl rfl <| zl rfl rfl <| hl_on rfl rfl <| zv Z25 <| ?_
 refine hl_on rfl rfl <| zm rfl <| hl_on rfl rfl <| zv (ov_neq rfl rfl) <| zv (ov_pickF rfl rfl) <| zn <| hc_cond_F rfl (Z64) ?_
 refine zk <| hc_seq <| HC.ent (l' := rdsk q s.S [] :: blk b6 122 [.int .u32 (s.ep : Int), .slice qb.1.1 (cfgB s.c0).length qb.1.2, .int .i64 qb.2, .int .i64 0] :: blk b11 49 (cfgA s.c0 qc) :: cfgR s.c0 qc) Z8 ?_
 refine HC.exs ?_
 rintro ⟨⟨A0, c0⟩, A1, c1⟩
 refine HC.ent (l' := blk q 56 [.slice A0 s.S.length c0, .slice A1 0 c1] :: row A0 61 64 s.S.length c0 (s.S.flatMap secC) :: row A1 63 65 0 c1 [] :: blk b6 122 [.int .u32 (s.ep : Int), .slice qb.1.1 (cfgB s.c0).length qb.1.2, .int .i64 qb.2, .int .i64 0] :: blk b11 49 (cfgA s.c0 qc) :: cfgR s.c0 qc) (fun _ h => h) ?_
 refine hc_any [blk b6 122 [.int .u32 (s.ep : Int), .slice qb.1.1 (cfgB s.c0).length qb.1.2, .int .i64 qb.2, .int .i64 0]] mixed 14 rfl ?_
 refine ha_v 0 rfl (ov_move rfl) rfl <| ha_v 1 rfl (ov_move rfl) rfl <| ha_v 2 rfl (ov_nil rfl) rfl <| ha_v 3 rfl (ov_fieldA rfl) rfl <| ha_v 6 rfl (ov_fieldA rfl) rfl <| ha_v 7 rfl (zw rfl rfl) rfl <| ha_one 4 Z61 <| ho_v rfl (zw rfl rfl) rfl <| ha_v 5 rfl Z25 rfl <| ?_
 refine ha_one 8 Z61 <| ho_ent (dsk_mk (P := [])) ?_
 refine ho_kx (σ := Nat) rfl Tryz.call54 rfl (fun w1 => zpx (rdsk q s.S []) fun D' _ _ H2 => (ROpen_ok D' w1 q s.S 32 s.S.length (m - 32) (regS s.S) s.ep Z64 Z64 Z64 Z64 hT H2).mono fun e w' ⟨jb, he, H'⟩ => ⟨jb, he, show Own D' w1 w' [rjou jb q 32 m s.ep (32 + s.k) (s.Ls.map edsB), rdsk q s.S []] by rw [hE] at H'; rw [← hlen]; exact H'⟩) ?_
 intro jb
 refine ha_v 9 rfl (ov_move rfl) rfl <| ha_v 10 rfl (ov_extract rfl rfl) rfl <| ha_v 11 rfl (ov_extract rfl rfl) rfl <| ha_v 12 rfl (ov_assign rfl) rfl <| ha_v 13 rfl (ov_assign rfl) rfl <| ha_done Z61 <| zt <| hc_seq <| zg <| zs rfl <| ?_
 refine zn <| hc_block <| HC.exs ?_
 rintro ⟨A5, cap5, cs5⟩
 refine HC.ent (l' := rjouB jb q 32 m s.ep (32 + s.k) (s.Ls.map edsB).length (A5, cap5) :: row A5 108 1 (s.Ls.map edsB).length cap5 cs5 :: rowsB 5 (s.Ls.map edsB) cs5 :: rdsk q s.S [] :: blk b6 122 [.int .u32 (s.ep : Int), .slice qb.1.1 (cfgB s.c0).length qb.1.2, .int .i64 qb.2, .int .i64 0] :: blk b11 49 (cfgA s.c0 qc) :: cfgR s.c0 qc) (fun _ h => h) ?_
 refine HC.fact (fun w H => Own.factR A5 H) ?_
 rintro ⟨hc5, _, _, hA5'⟩
 refine HC.fact (fun w H => rowsB_cells (t := 5) (xs := s.Ls.map edsB) (cs := cs5) H (by rw [hc5, Nat.mul_one])) ?_
 intro hcs5
 rw [hml]
 refine hc_loopK1 (σ := Nat × ConfC) [0, 6, 11, 13] rfl 15 (fun st => .int .i64 (st.1 : Int)) (fun st => [cfgO b11 st.2, rjouB jb q 32 m s.ep (32 + s.k) s.Ls.length (A5, cap5), row A5 108 1 s.Ls.length cap5 cs5, rowsB 5 (s.Ls.map edsB) cs5, rdsk q s.S [], blk b6 122 [.int .u32 (s.ep : Int), .slice qb.1.1 (cfgB s.c0).length qb.1.2, .int .i64 qb.2, .int .i64 0]]) (fun st => st.1 ≤ s.Ls.length ∧ replF st.2 (s.Ls.drop st.1) = some s.c ∧ OkC st.2) (fun st => s.Ls.length - st.1) ((0, s.c0)) (⟨Nat.zero_le _, h.rep, h.ok0⟩) rfl (Ent.trans (b := cfgQ b11 s.c0 qc ++ [rjouB jb q 32 m s.ep (32 + s.k) s.Ls.length (A5, cap5), row A5 108 1 s.Ls.length cap5 cs5, rowsB 5 (s.Ls.map edsB) cs5, rdsk q s.S [], blk b6 122 [.int .u32 (s.ep : Int), .slice qb.1.1 (cfgB s.c0).length qb.1.2, .int .i64 qb.2, .int .i64 0]]) Z8 (cfgO_mk qc)) ?_
 rintro ⟨i, ci⟩ hj_ K1 hK1
 dsimp only at hj_ ⊢
 obtain ⟨hi, hrc, hoc⟩ := hj_
 refine hc_seq <| zg <| zm rfl <| zm rfl <| zv (ov_nil rfl) <| zf rfl <| zl rfl rfl <| zv Z25 <| ?_
 refine zv (ov_lss rfl rfl) <| zn <| hc_cond rfl (fun hlt => ?_) (fun hlt => ?_)
 ·have hlt : i < s.Ls.length := by omega
  obtain ⟨le, hle⟩ : ∃ le, s.Ls[i]? = some le := ⟨_, List.getElem?_eq_getElem hlt⟩
  have hmi : (s.Ls.map edsB)[i]? = some (edsB le) := by rw [List.getElem?_map, hle]; rfl
  obtain ⟨B, cb, hcell⟩ := hcs5 i _ hmi
  have hcell' : cs5[i * 1]? = some (.slice B (edsB le).length cb) := by rw [Nat.mul_one]; exact hcell
  have hA5 : isA A5 := hA5' (by intro h; rw [h] at hcell; cases hcell)
  obtain ⟨hlt2, hle2⟩ := List.getElem?_eq_some_iff.1 hle
  obtain ⟨hleo, hlf⟩ := h.oks le (hle2 ▸ List.getElem_mem hlt)
  rw [List.drop_eq_getElem_cons hlt, hle2] at hrc
  have hrc : (if (edF ci le).2 = 0 then replF (edF ci le).1 (s.Ls.drop (i + 1)) else none) = some s.c := hrc
  split at hrc
  ·rename_i h0
   obtain ⟨c2, hc2e⟩ : ∃ c2, c2 = (edF ci le).1 := ⟨_, rfl⟩
   have hed : edF ci le = (c2, 0) := Prod.ext hc2e.symm h0
   have hoc2 : OkC c2 := by rw [hc2e]; exact editR_ok (edF_R ci le) hoc hlf
   rw [← hc2e] at hrc
   refine zk <| hc_seq <| hc_block <| zg <| zm rfl <| zv (ov_nil rfl) <| zf rfl <| zl rfl rfl <| zm rfl <| ?_
   refine hl_v (ov_idxS rfl hA5 rfl i rfl hlt) rfl <| hl_v (ov_load rfl (CellIs.row (A := A5) hA5 (i := i * 1) hcell')) rfl <| hl_call (σ := Option Addr × Nat) Tryz.call55 rfl rfl (fun w1 => zu fun D' _ hin _ => RList_g D' w1 _ le hleo (hin _ fun h hs ho => rep_elem (stars_rowsB (t := 5) (xs := s.Ls.map edsB) (cs := cs5) hs) i hmi hcell)) ?_
   intro qe
   try rw [List.nil_append]
   refine zm rfl <| zx rfl rfl <| zx rfl rfl <| zs rfl <| zs rfl <| hl_nil <| zt <| hc_seq <| zg <| zm rfl <| zv (ov_neq rfl rfl) <| zn <| hc_cond_F rfl ((fun h => h rfl)) <| HC.ent (Ent.pick (A := cfgO b11 ci) (Ent.refl _)) ?_
   refine HC.exs ?_
   intro q2
   refine HC.ent (l' := cfgQ b11 ci q2 ++ [row qe.1 81 7 le.length qe.2 (le.flatMap editV), rjouB jb q 32 m s.ep (32 + s.k) s.Ls.length (A5, cap5), row A5 108 1 s.Ls.length cap5 cs5, rowsB 5 (s.Ls.map edsB) cs5, rdsk q s.S [], blk b6 122 [.int .u32 (s.ep : Int), .slice qb.1.1 (cfgB s.c0).length qb.1.2, .int .i64 qb.2, .int .i64 0]]) (fun _ h => h) ?_
   refine zk <| zg <| hl_v (ov_loadW rfl rfl) rfl <| zm rfl <| hl_call (σ := Three) Tryz.call30 rfl rfl (fun w1 => zu fun D' _ hin _ => REdit_is D' w1 ci _ _ _ _ le c2 0 hed (by have := hleo.1; omega) (ConfOld.rows (q := q2) hoc hin) (hin _ fun h hs ho => rep_row (A := qe.1) hs le rfl (repL_F.2 ⟨rfl, hlf⟩))) ?_
   intro q3
   try rw [List.nil_append]
   refine zm rfl <| zx rfl rfl <| zx rfl rfl <| hl_u0 (on_storeW (vs := cfgA c2 q3) rfl rfl rfl (by simp) Z49) rfl rfl ?_
   refine zs rfl <| zn <| zg <| zm rfl <| zv (ov_neq rfl rfl) <| zn <| hc_cond_F rfl ((fun h => h rfl)) <| hc_skip <| zb <| zt <| hc_region <| zm rfl <| zv (ov_add rfl rfl Z28) <| ?_
   refine zs rfl <| hl_nil <| ?_
   exact hx_next hK1 ((i + 1, c2)) (⟨hlt, hrc, hoc2⟩) (by show s.Ls.length - (i + 1) < s.Ls.length - i; omega) Z16 (Ent.trans (b := cfgQ b11 c2 q3 ++ [rjouB jb q 32 m s.ep (32 + s.k) s.Ls.length (A5, cap5), row A5 108 1 s.Ls.length cap5 cs5, rowsB 5 (s.Ls.map edsB) cs5, rdsk q s.S [], blk b6 122 [.int .u32 (s.ep : Int), .slice qb.1.1 (cfgB s.c0).length qb.1.2, .int .i64 qb.2, .int .i64 0]]) Z8 (cfgO_mk q3))
  cases hrc
 have hil : i = s.Ls.length := by omega
 rw [hil, List.drop_length] at hrc
 have hrc : some ci = some s.c := hrc
 injection hrc with hrc
 rw [hrc]
 refine HC.exs ?_
 intro q2
 refine HC.ent (l' := cfgQ b11 s.c q2 ++ [rjouB jb q 32 m s.ep (32 + s.k) s.Ls.length (A5, cap5), row A5 108 1 s.Ls.length cap5 cs5, rowsB 5 (s.Ls.map edsB) cs5, rdsk q s.S [], blk b6 122 [.int .u32 (s.ep : Int), .slice qb.1.1 (cfgB s.c0).length qb.1.2, .int .i64 qb.2, .int .i64 0]]) (fun _ h => h) ?_
 refine hc_exit <| ze <| ze <| hx_block_out <| zt <| hc_seq <| hc_region <| zm rfl <| zm rfl <| hl_v (ov_loadW rfl rfl) rfl ?_
 dsimp only [List.getElem_toArray, List.getElem_cons_zero, List.getElem_cons_succ]
 refine zf rfl <| zl rfl rfl <| zv (ov_buildSN rfl rfl) <| ?_
 refine hl_new (on_boxN rfl rfl) rfl rfl rfl fun b119 =>  ?_
 refine zs rfl <| zs rfl <| zn <| zq <| ?_
 exact results_2 (.inr rfl) rfl rfl rfl fun w' H' => ⟨b119, rfl, H'.ent (Ent.trans (b := rjouB jb q 32 m s.ep (32 + s.k) (s.Ls.map edsB).length (A5, cap5) :: row A5 108 1 (s.Ls.map edsB).length cap5 cs5 :: rowsB 5 (s.Ls.map edsB) cs5 :: (blk b119 52 (rstoC jb q s q2) :: (cfgR s.c q2 ++ [rdsk q s.S []]))) (by rw [hml]; exact Z8) (Ent.trans rjou_mk (Ent.trans (b := blk b119 52 (rstoC jb q s q2) :: rjou jb q 32 m s.ep (32 + s.k) (s.Ls.map edsB) :: (cfgR s.c q2 ++ [rdsk q s.S []])) Z8 (rsto_mk jb q2))))⟩
set_option maxHeartbeats 2000000 in
theorem SROpen_new (q m p : Nat) (hm : 40 ≤ m) (hm2 : m ≤ 100000) (h1 : 1 ≤ p) (h8 : p ≤ 8) (S : List Sec) (hS : S = List.replicate m zeroSec) (H : Own D w w [rdsk q S []]) :
  Calls Tryz.prog 18 #[.pointer (some ⟨q, 0, none⟩), .int .i64 (p : Int)] w fun e w' => ∃ tb : Nat, e = .returned (.tuple #[.pointer (some ⟨tb, 0, none⟩), .int .i64 0]) ∧ Own D w w' [rsto tb q m (firstSt m p), rdsk q (firstSt m p).S []] := by
 have hSl : S.length = m := by rw [hS]; exact List.length_replicate
 have hld0 : loadE S = (0, [], 13) := loadE_none (by rw [hS]; exact blank_new Z64)
 obtain ⟨s, hs⟩ : ∃ s, s = firstSt m p := ⟨_, rfl⟩
 have h : SI m s := by rw [hs]; exact firstSt_ok hm h1 h8
 have hep : s.ep < 4294967296 := by rw [hs]; exact (show 1 < 4294967296 by decide)
 have hp : s.c0.2.2.2.1.length = p := by rw [hs]; exact List.length_replicate
 have hS1 : s.S = saveS S 1 (cfgB (firstC p)) := by rw [hs, hS]; rfl
 have hc0 : s.c0 = firstC p := by rw [hs]; rfl
 have hlen := h.len
 have hk := h.kle
 have hmany := h.many
 have hreg := h.reg
 have hg := firstC_good p h1 h8
 have hld := h.ld
 have hE : entsF s.ep (m - 32) 0 (regS s.S) = (s.Ls.map edsB, s.k) := by
  have := h.ji.open hep Z64
  rwa [hreg] at this
 have hT : regS s.S = (s.S.drop 32).take (m - 32) := by
  show s.S.drop 32 = _
  rw [List.take_of_length_le Z40]
 have hml : (s.Ls.map edsB).length = s.Ls.length := List.length_map _
 rw [← hs]
 refine hc_enter (vs := [.pointer (some ⟨q, 0, none⟩), .int .i64 (p : Int)]) Tryz.func18 rfl _ Tryz.ntmps18 rfl H ?_
 simp only [argSlots, Nat.zero_add]
 refine HC.exs ?_
 rintro ⟨⟨A0, c0⟩, A1, c1⟩
 refine HC.ent (l' := [blk q 56 [.slice A0 S.length c0, .slice A1 0 c1], row A0 61 64 S.length c0 (S.flatMap secC), row A1 63 65 0 c1 []]) (fun _ h => h) ?_
 refine zg <| zs rfl <| zs rfl <| zn <| hc_seq <| zg <| zm rfl <| zv (ov_eqlP rfl rfl) <| zm rfl <| hl_on rfl rfl <| zm rfl <| hl_on rfl rfl <| zv (ov_nil rfl) <| hl_on rfl rfl <| zf rfl <| hl_on rfl rfl <| zl rfl rfl <| hl_on rfl rfl <| zv Z25 <| ?_
 refine hl_on rfl rfl <| zv (ov_lss rfl rfl) <| zv (ov_pickF rfl rfl) <| zm rfl <| hl_partF (t := 28) rfl (Z64) ?_
 refine hl_on rfl rfl <| zm rfl <| hl_on rfl rfl <| zv (ov_lss rfl rfl) <| zv (ov_pickF rfl rfl) <| zm rfl <| hl_partF (t := 32) rfl (Z64) ?_
 refine hl_on rfl rfl <| zm rfl <| hl_on rfl rfl <| zv (ov_gtr rfl rfl) <| zv (ov_pickF rfl rfl) <| zn <| hc_cond_F rfl (Z64) ?_
 refine HC.ent (dsk_mk (P := [])) ?_
 refine zk <| zg <| zm rfl <| hl_c Tryz.call50 rfl rfl (fun w1 => zp (rdsk q S []) fun D' _ _ H2 => RLoad_new D' w1 q S hld0 Z64 H2) ?_
 refine hl_new (on_alloc) rfl rfl rfl fun b6 => 
  hl_u0 (on_storeGN rfl rfl rfl rfl rfl rfl) rfl rfl <| zn <| hc_seq <| hc_seq <| ?_
 refine hc_region <| zf rfl <| zl rfl rfl <| zv (ov_eql rfl rfl) <| zn <| ?_
 refine hc_cond_T rfl (rfl) <| zg <| zm rfl <| hl_call (σ := Three) Tryz.call29 rfl rfl (fun w1 => zu fun D' _ _ _ => RFirst_is D' w1 p h1 h8) ?_
 intro qf
 try rw [List.nil_append]
 refine zm rfl <| zx rfl rfl <| zx rfl rfl <| hl_new (on_alloc) rfl rfl rfl fun b7 =>  ?_
 refine hl_u0 (on_storeW (vs := cfgA (firstC p) qf) rfl rfl rfl (by simp) Z49) rfl rfl ?_
 refine zs rfl <| zn <| zg <| hl_v (ov_loadW rfl rfl) rfl <| hl_call (σ := Option Addr × Nat) Tryz.call51 rfl rfl (fun w1 => zu fun D' _ hin _ => RConfig_g D' w1 (firstC p) _ _ _ hg (ConfOld.rows (q := qf) (firstC_ok p h8) hin)) ?_
 intro qg
 try rw [List.nil_append]
 refine zm rfl <| zx rfl rfl <| zx rfl rfl <| zs rfl <| zs rfl <| hl_nil <| zt <| zg <| zm rfl <| zm rfl <| hl_c Tryz.call52 rfl rfl (fun w1 => zp (rdsk q S []) fun D' _ hin H2 => (RSave_ok D' w1 q S 1 _ (cfgB (firstC p)) Z64 Z64 Z63 (cfgB_small hg) (hin _ fun h hs ho => rep_row (A := qg.1) hs (cfgB (firstC p)) rfl (repL_bytes.2 rfl)) H2).mono fun e w' ⟨he, H'⟩ => ⟨he, show Own D' w1 w' [rdsk q s.S []] by rw [hS1]; exact H'⟩) ?_
 refine zn <| hc_region <| zm rfl <| hl_call (σ := (Option Addr × Nat) × Int) Tryz.call50 rfl rfl (fun w1 => zpx (rdsk q s.S []) fun D' _ _ H2 => RLoad_old D' w1 q s.S s.ep (cfgB s.c0) hld Z64 H2) ?_
 intro qb
 refine hl_u0 (on_storeW (vs := [.int .u32 (s.ep : Int), .slice qb.1.1 (cfgB s.c0).length qb.1.2, .int .i64 qb.2, .int .i64 0]) rfl rfl rfl (by simp) Z49) rfl rfl ?_
 refine zn <| zg <| zf rfl <| zl rfl rfl <| ?_
 refine hl_call (σ := Three) Tryz.call53 rfl rfl (fun w1 => zu fun D' _ hin _ => RParse_g D' w1 _ s.c0 h.g0 (hin _ fun h hs ho => rep_row (A := qb.1.1) hs (cfgB s.c0) rfl (repL_bytes.2 rfl))) ?_
 intro qc
 try rw [List.nil_append]
 refine zm rfl <| zx rfl rfl <| zx rfl rfl <| hl_new (on_alloc) rfl rfl rfl fun b11 =>  ?_
 refine hl_u0 (on_storeW (vs := cfgA s.c0 qc) rfl rfl rfl (by simp) Z49) rfl rfl ?_
 refine zs rfl <| zn <| hc_seq <| zg <| zm rfl <| zv (ov_neq rfl rfl) <| zm rfl <| hl_partF (t := 64) rfl ((fun h => h rfl)) <| hl_on rfl rfl <| zf rfl <| hl_on rfl rfl <| zl rfl rfl <| hl_on rfl rfl <| zv Z25 <| ?_
 refine hl_on rfl rfl <| zm rfl <| hl_on rfl rfl <| zv (ov_neq rfl rfl) <| zv (ov_pickF rfl rfl) <| zn <| hc_cond_F rfl (Z64) ?_
 refine zk <| hc_seq <| HC.ent (l' := rdsk q s.S [] :: blk b6 122 [.int .u32 (s.ep : Int), .slice qb.1.1 (cfgB s.c0).length qb.1.2, .int .i64 qb.2, .int .i64 0] :: blk b11 49 (cfgA s.c0 qc) :: cfgR s.c0 qc) Z8 ?_
 refine HC.exs ?_
 rintro ⟨⟨A0, c0⟩, A1, c1⟩
 refine HC.ent (l' := blk q 56 [.slice A0 s.S.length c0, .slice A1 0 c1] :: row A0 61 64 s.S.length c0 (s.S.flatMap secC) :: row A1 63 65 0 c1 [] :: blk b6 122 [.int .u32 (s.ep : Int), .slice qb.1.1 (cfgB s.c0).length qb.1.2, .int .i64 qb.2, .int .i64 0] :: blk b11 49 (cfgA s.c0 qc) :: cfgR s.c0 qc) (fun _ h => h) ?_
 refine hc_any [blk b6 122 [.int .u32 (s.ep : Int), .slice qb.1.1 (cfgB s.c0).length qb.1.2, .int .i64 qb.2, .int .i64 0]] mixed 14 rfl ?_
 refine ha_v 0 rfl (ov_move rfl) rfl <| ha_v 1 rfl (ov_move rfl) rfl <| ha_v 2 rfl (ov_nil rfl) rfl <| ha_v 3 rfl (ov_fieldA rfl) rfl <| ha_v 6 rfl (ov_fieldA rfl) rfl <| ha_v 7 rfl (zw rfl rfl) rfl <| ha_one 4 Z61 <| ho_v rfl (zw rfl rfl) rfl <| ha_v 5 rfl Z25 rfl <| ?_
 refine ha_one 8 Z61 <| ho_ent (dsk_mk (P := [])) ?_
 refine ho_kx (σ := Nat) rfl Tryz.call54 rfl (fun w1 => zpx (rdsk q s.S []) fun D' _ _ H2 => (ROpen_ok D' w1 q s.S 32 s.S.length (m - 32) (regS s.S) s.ep Z64 Z64 Z64 Z64 hT H2).mono fun e w' ⟨jb, he, H'⟩ => ⟨jb, he, show Own D' w1 w' [rjou jb q 32 m s.ep (32 + s.k) (s.Ls.map edsB), rdsk q s.S []] by rw [hE] at H'; rw [← hlen]; exact H'⟩) ?_
 intro jb
 refine ha_v 9 rfl (ov_move rfl) rfl <| ha_v 10 rfl (ov_extract rfl rfl) rfl <| ha_v 11 rfl (ov_extract rfl rfl) rfl <| ha_v 12 rfl (ov_assign rfl) rfl <| ha_v 13 rfl (ov_assign rfl) rfl <| ha_done Z61 <| zt <| hc_seq <| zg <| zs rfl <| ?_
 refine zn <| hc_block <| HC.exs ?_
 rintro ⟨A5, cap5, cs5⟩
 refine HC.ent (l' := rjouB jb q 32 m s.ep (32 + s.k) (s.Ls.map edsB).length (A5, cap5) :: row A5 108 1 (s.Ls.map edsB).length cap5 cs5 :: rowsB 5 (s.Ls.map edsB) cs5 :: rdsk q s.S [] :: blk b6 122 [.int .u32 (s.ep : Int), .slice qb.1.1 (cfgB s.c0).length qb.1.2, .int .i64 qb.2, .int .i64 0] :: blk b11 49 (cfgA s.c0 qc) :: cfgR s.c0 qc) (fun _ h => h) ?_
 refine HC.fact (fun w H => Own.factR A5 H) ?_
 rintro ⟨hc5, _, _, hA5'⟩
 refine HC.fact (fun w H => rowsB_cells (t := 5) (xs := s.Ls.map edsB) (cs := cs5) H (by rw [hc5, Nat.mul_one])) ?_
 intro hcs5
 rw [hml]
 refine hc_loopK1 (σ := Nat × ConfC) [0, 6, 11, 13] rfl 15 (fun st => .int .i64 (st.1 : Int)) (fun st => [cfgO b11 st.2, rjouB jb q 32 m s.ep (32 + s.k) s.Ls.length (A5, cap5), row A5 108 1 s.Ls.length cap5 cs5, rowsB 5 (s.Ls.map edsB) cs5, rdsk q s.S [], blk b6 122 [.int .u32 (s.ep : Int), .slice qb.1.1 (cfgB s.c0).length qb.1.2, .int .i64 qb.2, .int .i64 0]]) (fun st => st.1 ≤ s.Ls.length ∧ replF st.2 (s.Ls.drop st.1) = some s.c ∧ OkC st.2) (fun st => s.Ls.length - st.1) ((0, s.c0)) (⟨Nat.zero_le _, h.rep, h.ok0⟩) rfl (Ent.trans (b := cfgQ b11 s.c0 qc ++ [rjouB jb q 32 m s.ep (32 + s.k) s.Ls.length (A5, cap5), row A5 108 1 s.Ls.length cap5 cs5, rowsB 5 (s.Ls.map edsB) cs5, rdsk q s.S [], blk b6 122 [.int .u32 (s.ep : Int), .slice qb.1.1 (cfgB s.c0).length qb.1.2, .int .i64 qb.2, .int .i64 0]]) Z8 (cfgO_mk qc)) ?_
 rintro ⟨i, ci⟩ hj_ K1 hK1
 dsimp only at hj_ ⊢
 obtain ⟨hi, hrc, hoc⟩ := hj_
 refine hc_seq <| zg <| zm rfl <| zm rfl <| zv (ov_nil rfl) <| zf rfl <| zl rfl rfl <| zv Z25 <| ?_
 refine zv (ov_lss rfl rfl) <| zn <| hc_cond rfl (fun hlt => ?_) (fun hlt => ?_)
 ·have hlt : i < s.Ls.length := by omega
  obtain ⟨le, hle⟩ : ∃ le, s.Ls[i]? = some le := ⟨_, List.getElem?_eq_getElem hlt⟩
  have hmi : (s.Ls.map edsB)[i]? = some (edsB le) := by rw [List.getElem?_map, hle]; rfl
  obtain ⟨B, cb, hcell⟩ := hcs5 i _ hmi
  have hcell' : cs5[i * 1]? = some (.slice B (edsB le).length cb) := by rw [Nat.mul_one]; exact hcell
  have hA5 : isA A5 := hA5' (by intro h; rw [h] at hcell; cases hcell)
  obtain ⟨hlt2, hle2⟩ := List.getElem?_eq_some_iff.1 hle
  obtain ⟨hleo, hlf⟩ := h.oks le (hle2 ▸ List.getElem_mem hlt)
  rw [List.drop_eq_getElem_cons hlt, hle2] at hrc
  have hrc : (if (edF ci le).2 = 0 then replF (edF ci le).1 (s.Ls.drop (i + 1)) else none) = some s.c := hrc
  split at hrc
  ·rename_i h0
   obtain ⟨c2, hc2e⟩ : ∃ c2, c2 = (edF ci le).1 := ⟨_, rfl⟩
   have hed : edF ci le = (c2, 0) := Prod.ext hc2e.symm h0
   have hoc2 : OkC c2 := by rw [hc2e]; exact editR_ok (edF_R ci le) hoc hlf
   rw [← hc2e] at hrc
   refine zk <| hc_seq <| hc_block <| zg <| zm rfl <| zv (ov_nil rfl) <| zf rfl <| zl rfl rfl <| zm rfl <| ?_
   refine hl_v (ov_idxS rfl hA5 rfl i rfl hlt) rfl <| hl_v (ov_load rfl (CellIs.row (A := A5) hA5 (i := i * 1) hcell')) rfl <| hl_call (σ := Option Addr × Nat) Tryz.call55 rfl rfl (fun w1 => zu fun D' _ hin _ => RList_g D' w1 _ le hleo (hin _ fun h hs ho => rep_elem (stars_rowsB (t := 5) (xs := s.Ls.map edsB) (cs := cs5) hs) i hmi hcell)) ?_
   intro qe
   try rw [List.nil_append]
   refine zm rfl <| zx rfl rfl <| zx rfl rfl <| zs rfl <| zs rfl <| hl_nil <| zt <| hc_seq <| zg <| zm rfl <| zv (ov_neq rfl rfl) <| zn <| hc_cond_F rfl ((fun h => h rfl)) <| HC.ent (Ent.pick (A := cfgO b11 ci) (Ent.refl _)) ?_
   refine HC.exs ?_
   intro q2
   refine HC.ent (l' := cfgQ b11 ci q2 ++ [row qe.1 81 7 le.length qe.2 (le.flatMap editV), rjouB jb q 32 m s.ep (32 + s.k) s.Ls.length (A5, cap5), row A5 108 1 s.Ls.length cap5 cs5, rowsB 5 (s.Ls.map edsB) cs5, rdsk q s.S [], blk b6 122 [.int .u32 (s.ep : Int), .slice qb.1.1 (cfgB s.c0).length qb.1.2, .int .i64 qb.2, .int .i64 0]]) (fun _ h => h) ?_
   refine zk <| zg <| hl_v (ov_loadW rfl rfl) rfl <| zm rfl <| hl_call (σ := Three) Tryz.call30 rfl rfl (fun w1 => zu fun D' _ hin _ => REdit_is D' w1 ci _ _ _ _ le c2 0 hed (by have := hleo.1; omega) (ConfOld.rows (q := q2) hoc hin) (hin _ fun h hs ho => rep_row (A := qe.1) hs le rfl (repL_F.2 ⟨rfl, hlf⟩))) ?_
   intro q3
   try rw [List.nil_append]
   refine zm rfl <| zx rfl rfl <| zx rfl rfl <| hl_u0 (on_storeW (vs := cfgA c2 q3) rfl rfl rfl (by simp) Z49) rfl rfl ?_
   refine zs rfl <| zn <| zg <| zm rfl <| zv (ov_neq rfl rfl) <| zn <| hc_cond_F rfl ((fun h => h rfl)) <| hc_skip <| zb <| zt <| hc_region <| zm rfl <| zv (ov_add rfl rfl Z28) <| ?_
   refine zs rfl <| hl_nil <| ?_
   exact hx_next hK1 ((i + 1, c2)) (⟨hlt, hrc, hoc2⟩) (by show s.Ls.length - (i + 1) < s.Ls.length - i; omega) Z16 (Ent.trans (b := cfgQ b11 c2 q3 ++ [rjouB jb q 32 m s.ep (32 + s.k) s.Ls.length (A5, cap5), row A5 108 1 s.Ls.length cap5 cs5, rowsB 5 (s.Ls.map edsB) cs5, rdsk q s.S [], blk b6 122 [.int .u32 (s.ep : Int), .slice qb.1.1 (cfgB s.c0).length qb.1.2, .int .i64 qb.2, .int .i64 0]]) Z8 (cfgO_mk q3))
  cases hrc
 have hil : i = s.Ls.length := by omega
 rw [hil, List.drop_length] at hrc
 have hrc : some ci = some s.c := hrc
 injection hrc with hrc
 rw [hrc]
 refine HC.exs ?_
 intro q2
 refine HC.ent (l' := cfgQ b11 s.c q2 ++ [rjouB jb q 32 m s.ep (32 + s.k) s.Ls.length (A5, cap5), row A5 108 1 s.Ls.length cap5 cs5, rowsB 5 (s.Ls.map edsB) cs5, rdsk q s.S [], blk b6 122 [.int .u32 (s.ep : Int), .slice qb.1.1 (cfgB s.c0).length qb.1.2, .int .i64 qb.2, .int .i64 0]]) (fun _ h => h) ?_
 refine hc_exit <| ze <| ze <| hx_block_out <| zt <| hc_seq <| hc_region <| zm rfl <| zm rfl <| hl_v (ov_loadW rfl rfl) rfl ?_
 dsimp only [List.getElem_toArray, List.getElem_cons_zero, List.getElem_cons_succ]
 refine zf rfl <| zl rfl rfl <| zv (ov_buildSN rfl rfl) <| ?_
 refine hl_new (on_boxN rfl rfl) rfl rfl rfl fun b119 =>  ?_
 refine zs rfl <| zs rfl <| zn <| zq <| ?_
 exact results_2 (.inr rfl) rfl rfl rfl fun w' H' => ⟨b119, rfl, H'.ent (Ent.trans (b := rjouB jb q 32 m s.ep (32 + s.k) (s.Ls.map edsB).length (A5, cap5) :: row A5 108 1 (s.Ls.map edsB).length cap5 cs5 :: rowsB 5 (s.Ls.map edsB) cs5 :: (blk b119 52 (rstoC jb q s q2) :: (cfgR s.c q2 ++ [rdsk q s.S []]))) (by rw [hml]; exact Z8) (Ent.trans rjou_mk (Ent.trans (b := blk b119 52 (rstoC jb q s q2) :: rjou jb q 32 m s.ep (32 + s.k) (s.Ls.map edsB) :: (cfgR s.c q2 ++ [rdsk q s.S []])) Z8 (rsto_mk jb q2))))⟩
set_option maxHeartbeats 2000000 in
theorem SRCommit_spec (tb q m : Nat) (s : SSt) (v : Value) (l : List EditC) (h : SI m s) (hm2 : m ≤ 100000) (hep : s.ep < 4294967290) (hll : l.length ≤ 1000000) (HA : Old D w (Rep.rep l [v])) (H : Own D w w [rsto tb q m s, rdsk q s.S []]) :
  Calls Tryz.prog 20 #[.pointer (some ⟨tb, 0, none⟩), v] w fun e w' => e = .returned (.int .i64 (commR m s l).1) ∧ Own D w w' [rsto tb q m (commR m s l).2, rdsk q (commR m s l).2.S []] := by
 obtain ⟨Al, cl, rfl, _, _, _, hfl⟩ := HA.openF
 have hlen := h.len
 have hm := h.m40
 have hk := h.kle
 have hmany := h.many
 have hml : (s.Ls.map edsB).length = s.Ls.length := List.length_map _
 obtain ⟨c2, er, hed⟩ : ∃ c2 er, edF s.c l = (c2, er) := ⟨_, _, rfl⟩
 refine hc_enter (vs := [.pointer (some ⟨tb, 0, none⟩), .slice Al l.length cl]) Tryz.func20 rfl _ Tryz.ntmps20 rfl H ?_
 simp only [argSlots, Nat.zero_add]
 refine HC.exs ?_
 rintro ⟨jb, x⟩
 refine HC.ent (l' := blk tb 52 (rstoC jb q s x) :: rjou jb q 32 m s.ep (32 + s.k) (s.Ls.map edsB) :: (cfgR s.c x ++ [rdsk q s.S []])) (fun _ h => h) ?_
 refine zg <| zs rfl <| zn <| hc_seq <| hc_region <| zm rfl <| zv (ov_nil rfl) <| zf rfl <| ?_
 refine hl_v (ov_loadGB (vs := cfgA s.c x) rfl rfl) rfl <| zm rfl <| hl_call (σ := Three) Tryz.call30 rfl rfl (fun w1 => zu fun D' hold hin _ => REdit_is D' w1 s.c _ _ _ _ l c2 er hed hll (ConfOld.rows (q := x) h.okc hin) (hold _ HA)) ?_
 intro qd
 try rw [List.nil_append]
 refine zm rfl <| zx rfl rfl <| zx rfl rfl <| hl_new (on_alloc) rfl rfl rfl fun b5 =>  ?_
 refine hl_u0 (on_storeW (vs := cfgA c2 qd) rfl rfl rfl (by simp) Z49) rfl rfl ?_
 refine zs rfl <| zn <| hc_seq <| zg <| zm rfl <| zv (ov_neq rfl rfl) <| zn <| hc_cond rfl (fun he => ?_) (fun he => ?_)
 ·have hc : commR m s l = (er, s) := by unfold commR; rw [hed, if_pos he]
  refine zg <| zm rfl <| zs rfl <| zn <| zq <| zr <| ?_
  exact zz rfl rfl fun w' H' => ⟨by rw [hc]; rfl, by rw [hc]; exact H'.ent (Ent.trans (b := blk tb 52 (rstoC jb q s x) :: rjou jb q 32 m s.ep (32 + s.k) (s.Ls.map edsB) :: (cfgR s.c x ++ [rdsk q s.S []])) Z8 (rsto_mk jb x))⟩
 have he : er = 0 := Classical.not_not.1 he
 subst he
 have h0 : (edF s.c l).2 = 0 := by rw [hed]
 have hl32 : l.length ≤ 32 := (edF_ok h0).2.1
 have hsm := edsB_small hl32
 have hc2 : c2 = (edF s.c l).1 := by rw [hed]
 by_cases hok : okEds l
 ·obtain ⟨n, hn⟩ : ∃ n, needM (edsB l).length = n := ⟨_, rfl⟩
  refine zk <| zg <| zm rfl <| hl_call (σ := Option Addr × Nat) Tryz.call59 rfl rfl (fun w1 => zu fun D' hold _ _ => REdits_g D' w1 _ l hok (hold _ HA)) ?_
  intro qe
  try rw [List.nil_append]
  refine zm rfl <| zx rfl rfl <| zx rfl rfl <| zs rfl <| zs rfl <| hl_nil <| zt <| hc_seq <| zg <| zm rfl <| zv (ov_neq rfl rfl) <| zn <| hc_cond_F rfl ((fun h => h rfl)) <| zk <| zg <| zm rfl <| zv (ov_nil rfl) <| zf rfl <| zl rfl rfl <| zm rfl <| ?_
  by_cases hfit : n ≤ m - 32 - s.k
  ·obtain ⟨sN, hsN⟩ : ∃ sN, sN = appSt s l := ⟨_, rfl⟩
   have hc : commR m s l = (0, sN) := by unfold commR; rw [hed, if_neg (fun h => h rfl), if_neg (fun h => h hok), hn, if_pos hfit, hsN]
   have hS' : sN.S = putS s.S (32 + s.k) (encE (jouE s.ep (s.Ls.map edsB).length (edsB l))) := by rw [hsN, hml]; rfl
   have hL' : sN.Ls.map edsB = s.Ls.map edsB ++ [edsB l] := by rw [hsN]; show (s.Ls ++ [l]).map edsB = _; rw [List.map_append]; rfl
   have hk' : 32 + sN.k = 32 + s.k + n := by rw [hsN]; show 32 + (s.k + needM (edsB l).length) = _; omega
   have hcN : sN.c = c2 := by rw [hsN, hc2]; rfl
   have heN : sN.ep = s.ep := by rw [hsN]; rfl
   rw [hc]
   subst hcN
   refine hl_c Tryz.call60 rfl rfl (fun w1 H1 => Own.callp2 (rjou jb q 32 m s.ep (32 + s.k) (s.Ls.map edsB)) (rdsk q s.S []) H1 fun D' _ hin H2 => RAppend_ok D' w1 jb q 32 m s.ep (32 + s.k) (s.Ls.map edsB) _ s.S (edsB l) n (32 + sN.k) (sN.Ls.map edsB) sN.S hn hk' hL' hS' Z64 Z64 Z64 Z64 Z64 Z64 Z64 (hin _ fun h hs ho => rep_row (A := qe.1) hs (edsB l) rfl (repL_bytes.2 rfl)) H2) ?_
   rw [← heN]
   obtain ⟨jb2, hjb2⟩ : ∃ x, x = jb := ⟨_, rfl⟩
   rw [← hjb2]
   refine zs rfl <| zn <| hc_seq <| zg <| zm rfl <| zv (ov_eql rfl rfl) <| zn <| hc_cond_F rfl (Z63) ?_
   refine zk <| hc_seq <| zg <| zm rfl <| zv (ov_neq rfl rfl) <| zn <| hc_cond_F rfl ((fun h => h rfl)) <| zk <| zg <| zm rfl <| hl_v (ov_loadW rfl rfl) rfl <| zv (ov_nil rfl) <| zf rfl <| ?_
   refine hl_u0 (on_storeGE (rstoC jb2 q sN qd) rfl rfl rfl (by simp) Z49 (by unfold rstoC; rw [heN]; rfl)) rfl rfl ?_
   refine zn <| zg <| zs rfl <| hl_nil <| zt <| zq <| ?_
   exact zz rfl rfl fun w' H' => ⟨rfl, H'.ent (Ent.trans (b := blk tb 52 (rstoC jb2 q sN qd) :: rjou jb2 q 32 m sN.ep (32 + sN.k) (sN.Ls.map edsB) :: (cfgR sN.c qd ++ [rdsk q sN.S []])) Z8 (rsto_mk (s := sN) jb2 qd))⟩
  refine hl_c Tryz.call60 rfl rfl (fun w1 => zp (rjou jb q 32 m s.ep (32 + s.k) (s.Ls.map edsB)) fun D' _ hin H2 => RAppend_full D' w1 jb q 32 m s.ep (32 + s.k) (s.Ls.map edsB) _ (edsB l) Z64 n hn Z64 Z64 Z64 Z64 Z64 (hin _ fun h hs ho => rep_row (A := qe.1) hs (edsB l) rfl (repL_bytes.2 rfl)) H2) ?_
  refine HL.ent (Ent.trans (b := blk tb 52 (rstoC jb q s x) :: rjou jb q 32 m s.ep (32 + s.k) (s.Ls.map edsB) :: (cfgR s.c x ++ [rdsk q s.S [], row qe.1 5 1 (edsB l).length qe.2 ((edsB l).map u8v), blk b5 49 (cfgA c2 qd), row qd.1.1 83 3 c2.2.2.2.1.length qd.1.2 (c2.2.2.2.1.flatMap portV), row qd.2.1.1 147 3 c2.2.2.2.2.1.length qd.2.1.2 (c2.2.2.2.2.1.flatMap vlanV), row qd.2.2.1 149 3 c2.2.2.2.2.2.length qd.2.2.2 (c2.2.2.2.2.2.flatMap statV)])) Z8 (rsto_mk jb x)) ?_
  have h1 := saveSt_ok h hep
  obtain ⟨s1, hs1⟩ : ∃ s1, s1 = saveSt s := ⟨_, rfl⟩
  have hs1k : s1.k = 0 := by rw [hs1]; rfl
  have hs1c : s1.c = s.c := by rw [hs1]; rfl
  have hs1L : s1.Ls = [] := by rw [hs1]; rfl
  have hs1e : s1.ep = s.ep + 1 := by rw [hs1]; rfl
  rw [← hs1] at h1
  have hl1 := h1.len
  refine zs rfl <| zn <| hc_seq <| zg <| zm rfl <| zv (ov_eql rfl rfl) <| zn <| hc_cond_T rfl (rfl) <| hc_seq <| zg <| zm rfl <| hl_c Tryz.call33 rfl rfl (fun w1 H1 => Own.callp2 (rsto tb q m s) (rdsk q s.S []) H1 fun D' _ _ H2 => SRSave_spec D' w1 tb q m s h hm2 hep H2) ?_
  rw [← hs1]
  refine zs rfl <| zn <| zg <| zm rfl <| zv (ov_neq rfl rfl) <| zn <| hc_cond_F rfl ((fun h => h rfl)) <| zk <| HC.exs ?_
  rintro ⟨jb2, q2⟩
  refine HC.ent (l' := blk tb 52 (rstoC jb2 q s1 q2) :: rjou jb2 q 32 m s1.ep (32 + s1.k) (s1.Ls.map edsB) :: (cfgR s1.c q2 ++ [rdsk q s1.S [], row qe.1 5 1 (edsB l).length qe.2 ((edsB l).map u8v), blk b5 49 (cfgA c2 qd), row qd.1.1 83 3 c2.2.2.2.1.length qd.1.2 (c2.2.2.2.1.flatMap portV), row qd.2.1.1 147 3 c2.2.2.2.2.1.length qd.2.1.2 (c2.2.2.2.2.1.flatMap vlanV), row qd.2.2.1 149 3 c2.2.2.2.2.2.length qd.2.2.2 (c2.2.2.2.2.2.flatMap statV)])) (fun _ h => h) ?_
  refine hc_region <| zm rfl <| zv (ov_nil rfl) <| zf rfl <| zl rfl rfl <| zm rfl <| ?_
  by_cases hfit2 : n ≤ m - 32
  ·obtain ⟨sN, hsN⟩ : ∃ sN, sN = appSt s1 l := ⟨_, rfl⟩
   have hc : commR m s l = (0, sN) := by unfold commR; rw [hed, if_neg (fun h => h rfl), if_neg (fun h => h hok), hn, if_neg hfit, if_pos hfit2, hsN, hs1]
   have hS' : sN.S = putS s1.S (32 + s1.k) (encE (jouE s1.ep (s1.Ls.map edsB).length (edsB l))) := by rw [hsN, List.length_map]; rfl
   have hL' : sN.Ls.map edsB = s1.Ls.map edsB ++ [edsB l] := by rw [hsN]; show (s1.Ls ++ [l]).map edsB = _; rw [List.map_append]; rfl
   have hk' : 32 + sN.k = 32 + s1.k + n := by rw [hsN]; show 32 + (s1.k + needM (edsB l).length) = _; omega
   have hcN : sN.c = c2 := by rw [hsN, hc2]; show (edF s1.c l).1 = _; rw [hs1c]
   have heN : sN.ep = s1.ep := by rw [hsN]; rfl
   rw [hc]
   subst hcN
   refine hl_c Tryz.call60 rfl rfl (fun w1 H1 => Own.callp2 (rjou jb2 q 32 m s1.ep (32 + s1.k) (s1.Ls.map edsB)) (rdsk q s1.S []) H1 fun D' _ hin H2 => RAppend_ok D' w1 jb2 q 32 m s1.ep (32 + s1.k) (s1.Ls.map edsB) _ s1.S (edsB l) n (32 + sN.k) (sN.Ls.map edsB) sN.S hn hk' hL' hS' Z64 Z64 Z64 Z64 Z64 Z64 (by rw [hs1L]; decide) (hin _ fun h hs ho => rep_row (A := qe.1) hs (edsB l) rfl (repL_bytes.2 rfl)) H2) ?_
   rw [← heN]
   refine zs rfl <| zn <| hc_seq <| zg <| zm rfl <| zv (ov_neq rfl rfl) <| zn <| hc_cond_F rfl ((fun h => h rfl)) <| zk <| zg <| zm rfl <| hl_v (ov_loadW rfl rfl) rfl <| zv (ov_nil rfl) <| zf rfl <| ?_
   refine hl_u0 (on_storeGE (rstoC jb2 q sN qd) rfl rfl rfl (by simp) Z49 (by unfold rstoC; rw [heN]; rfl)) rfl rfl ?_
   refine zn <| zg <| zs rfl <| hl_nil <| zt <| zq <| ?_
   exact zz rfl rfl fun w' H' => ⟨rfl, H'.ent (Ent.trans (b := blk tb 52 (rstoC jb2 q sN qd) :: rjou jb2 q 32 m sN.ep (32 + sN.k) (sN.Ls.map edsB) :: (cfgR sN.c qd ++ [rdsk q sN.S []])) Z8 (rsto_mk (s := sN) jb2 qd))⟩
  have hc : commR m s l = (12, s1) := by unfold commR; rw [hed, if_neg (fun h => h rfl), if_neg (fun h => h hok), hn, if_neg hfit, if_neg hfit2, hs1]
  rw [hc]
  refine hl_c Tryz.call60 rfl rfl (fun w1 => zp (rjou jb2 q 32 m s1.ep (32 + s1.k) (s1.Ls.map edsB)) fun D' _ hin H2 => RAppend_full D' w1 jb2 q 32 m s1.ep (32 + s1.k) (s1.Ls.map edsB) _ (edsB l) Z64 n hn Z64 Z64 Z64 Z64 (by rw [hs1L]; decide) (hin _ fun h hs ho => rep_row (A := qe.1) hs (edsB l) rfl (repL_bytes.2 rfl)) H2) ?_
  refine zs rfl <| zn <| hc_seq <| zg <| zm rfl <| zv (ov_neq rfl rfl) <| zn <| hc_cond_T rfl (Z63) ?_
  refine zg <| zm rfl <| zs rfl <| zn <| zq <| zr <| ?_
  exact zz rfl rfl fun w' H' => ⟨rfl, H'.ent (Ent.trans (b := blk tb 52 (rstoC jb2 q s1 q2) :: rjou jb2 q 32 m s1.ep (32 + s1.k) (s1.Ls.map edsB) :: (cfgR s1.c q2 ++ [rdsk q s1.S []])) Z8 (rsto_mk jb2 q2))⟩
 have hc : commR m s l = (11, s) := by unfold commR; rw [hed, if_neg (fun h => h rfl), if_pos hok]
 rw [hc]
 refine zk <| zg <| zm rfl <| hl_call (σ := Option Addr × Nat) Tryz.call59 rfl rfl (fun w1 => zu fun D' hold _ _ => REdits_b D' w1 _ l hl32 hok (hold _ HA)) ?_
 intro qe
 try rw [List.nil_append]
 refine zm rfl <| zx rfl rfl <| zx rfl rfl <| zs rfl <| zs rfl <| hl_nil <| zt <| hc_seq <| zg <| zm rfl <| zv (ov_neq rfl rfl) <| zn <| hc_cond_T rfl (Z63) ?_
 refine zg <| zm rfl <| zs rfl <| zn <| zq <| zr <| ?_
 exact zz rfl rfl fun w' H' => ⟨rfl, H'.ent (Ent.trans (b := blk tb 52 (rstoC jb q s x) :: rjou jb q 32 m s.ep (32 + s.k) (s.Ls.map edsB) :: (cfgR s.c x ++ [rdsk q s.S []])) Z8 (rsto_mk jb x))⟩
end Go.Proofs.YtjlolpmmpafjeaaGreat
