import Derived.Test.YtjlolpmmpafjeaaGreatV15
set_option linter.unusedVariables false
set_option linter.unusedSimpArgs false
namespace Go.Proofs.YtjlolpmmpafjeaaGreat
open Slk
variable (D : Nat → Prop) (w : World)
abbrev stoC (jb g : Nat) (s : SSt) (q : Three) : List Value := [.pointer (some ⟨jb, 0, none⟩), .pointer (some ⟨g, 0, none⟩), .int .i64 s.c.1, .int .i64 s.c.2.1, .int .i64 s.c.2.2.1, .slice q.1.1 s.c.2.2.2.1.length q.1.2, .slice q.2.1.1 s.c.2.2.2.2.1.length q.2.1.2, .slice q.2.2.1 s.c.2.2.2.2.2.length q.2.2.2, .int .u32 (s.ep : Int)]
def stoL (sb g m : Nat) (s : SSt) (x : Nat × Three) : List HProp := blk sb 120 (stoC x.1 g s x.2) :: jou x.1 g 32 m s.ep (32 + s.k) (s.Ls.map edsB) :: cfgR s.c x.2
def sto (sb g m : Nat) (s : SSt) : HProp := exS (stoL sb g m s)
theorem sto_mk {sb g m : Nat} {s : SSt} {l : List HProp} (jb : Nat) (q : Three) : Ent (blk sb 120 (stoC jb g s q) :: jou jb g 32 m s.ep (32 + s.k) (s.Ls.map edsB) :: (cfgR s.c q ++ l)) (sto sb g m s :: l) := Ent.exS (L := stoL sb g m s) (l := l) (jb, q)
theorem SEpoch_spec (sb g m : Nat) (s : SSt) (H : Own D w w [sto sb g m s]) : Calls Tryz.prog 32 #[.pointer (some ⟨sb, 0, none⟩)] w fun e w' => e = .returned (.int .u32 (s.ep : Int)) ∧ Own D w w' [sto sb g m s] := by
 refine hc_enter (vs := [.pointer (some ⟨sb, 0, none⟩)]) Tryz.func32 rfl _ Tryz.ntmps32 rfl H ?_
 simp only [argSlots, Nat.zero_add]
 refine HC.exs ?_
 rintro ⟨jb, q⟩
 refine HC.ent (l' := blk sb 120 (stoC jb g s q) :: jou jb g 32 m s.ep (32 + s.k) (s.Ls.map edsB) :: cfgR s.c q) (fun _ h => h) ?_
 refine zg <| zs rfl <| zn <| hc_seq <| zg <| zm rfl <| zv (ov_eqlP rfl rfl) <| zn <| hc_cond_false rfl <| zk <| zg <| zm rfl <| zv (ov_nil rfl) <| zf rfl <| zl rfl rfl <| zs rfl <| zn <| zq <| ?_
 exact zz rfl rfl fun w' H' => ⟨rfl, H'.ent (sto_mk (l := []) jb q)⟩
theorem SConfig_spec (sb g m : Nat) (s : SSt) (hok : OkC s.c) (H : Own D w w [sto sb g m s]) : Calls Tryz.prog 26 #[.pointer (some ⟨sb, 0, none⟩)] w fun e w' => ∃ q : Three, e = .returned (.agg (cfgA s.c q).toArray) ∧ Own D w w' (sto sb g m s :: cfgR s.c q) := by
 refine hc_enter (vs := [.pointer (some ⟨sb, 0, none⟩)]) Tryz.func26 rfl _ Tryz.ntmps26 rfl H ?_
 simp only [argSlots, Nat.zero_add]
 refine HC.exs ?_
 rintro ⟨jb, q⟩
 refine HC.ent (l' := blk sb 120 (stoC jb g s q) :: jou jb g 32 m s.ep (32 + s.k) (s.Ls.map edsB) :: cfgR s.c q) (fun _ h => h) ?_
 refine zg <| hl_new (on_alloc) rfl rfl rfl fun b2 =>
  zn <| hc_seq <| ?_
 refine zg <| zm rfl <| zv (ov_eqlP rfl rfl) <| zn <| hc_cond_false rfl <| zk <| zg <| zm rfl <| zv (ov_nil rfl) <| zf rfl <| ?_
 refine hl_v (ov_loadGB (vs := cfgA s.c q) rfl rfl) rfl <| hl_call (σ := Three) Tryz.call65 rfl rfl (fun w1 => zu fun D' _ hin _ => Copy_spec D' w1 s.c _ _ _ (ConfOld.rows (q := q) hok hin)) ?_
 intro q2
 try rw [List.nil_append]
 refine hl_u0 (on_storeW (vs := cfgA s.c q2) rfl rfl rfl (by simp) Z49) rfl rfl ?_
 refine zn <| zq <| ?_
 exact results_c (.inr rfl) rfl rfl (by simp) fun w' H' => ⟨q2, rfl, H'.ent (Ent.trans (b := blk sb 120 (stoC jb g s q) :: jou jb g 32 m s.ep (32 + s.k) (s.Ls.map edsB) :: (cfgR s.c q ++ cfgR s.c q2)) Z8 (sto_mk jb q))⟩
set_option maxHeartbeats 1000000 in
theorem SSave_spec (sb g m : Nat) (s : SSt) (h : SI m s) (hep : s.ep < 4294967290) (H : Own D w w [sto sb g m s, dsk g s.S []]) : Calls Tryz.prog 31 #[.pointer (some ⟨sb, 0, none⟩)] w fun e w' => e = .returned (.int .i64 0) ∧ Own D w w' [sto sb g m (saveSt s), dsk g (saveSt s).S []] := by
 have hlen := h.len
 have hm := h.m40
 refine hc_enter (vs := [.pointer (some ⟨sb, 0, none⟩)]) Tryz.func31 rfl _ Tryz.ntmps31 rfl H ?_
 simp only [argSlots, Nat.zero_add]
 refine HC.exs ?_
 rintro ⟨jb, q⟩
 refine HC.ent (l' := blk sb 120 (stoC jb g s q) :: jou jb g 32 m s.ep (32 + s.k) (s.Ls.map edsB) :: (cfgR s.c q ++ [dsk g s.S []])) (fun _ h => h) ?_
 refine zg <| zs rfl <| zn <| hc_seq <| zg <| zm rfl <| zv (ov_eqlP rfl rfl) <| zn <| hc_cond_false rfl <| zk <| hc_seq <| hc_seq <| hc_any [blk sb 120 (stoC jb g s q)] mixed 15 rfl ?_
 refine ha_v 0 rfl (ov_move rfl) rfl <| ha_v 1 rfl (ov_nil rfl) rfl <| ha_v 2 rfl (ov_fieldA rfl) rfl <| ha_v 3 rfl (zw rfl rfl) rfl <| ha_v 4 rfl (ov_move rfl) rfl <| ha_v 5 rfl (ov_nil rfl) rfl <| ha_v 6 rfl (ov_fieldA rfl) rfl <| ha_v 7 rfl (zw rfl rfl) rfl <| ha_v 8 rfl (ov_add rfl rfl Z30) rfl <| ?_
 refine ha_v 9 rfl (ov_move rfl) rfl <| ha_v 10 rfl (ov_nil rfl) rfl <| ha_v 11 rfl (ov_fieldA rfl) rfl <| ha_one 12 Z61 <| ho_v rfl (ov_loadGB (vs := cfgA s.c q) rfl rfl) rfl <| ha_one 13 Z61 <| ho_k rfl Tryz.call69 rfl (fun w1 => zp (dsk g s.S []) fun D' _ hin H2 => save_spec D' w1 g (s.ep + 1) s.S s.c _ _ _ Z64 h.gc Z64 (ConfOld.rows (q := q) h.okc hin) H2) ?_
 refine ha_v 14 rfl (ov_assign rfl) rfl <| ha_done Z61 <| zt <| zg <| zm rfl <| zv (ov_neq rfl rfl) <| ?_
 refine zn <| hc_cond_F rfl ((fun h => h rfl)) <| zk <| zg <| zm rfl <| zv (ov_nil rfl) <| zf rfl <| zl rfl rfl <| ?_
 refine hl_v (ov_add (m := ((s.ep + 1 : Nat) : Int)) rfl rfl ((wrap_u32 Z64).trans Z64)) rfl ?_
 refine zv (ov_nil rfl) <| zf rfl <| hl_u0 (on_storeN rfl rfl rfl rfl rfl) rfl rfl <| zn <| hc_seq <| ?_
 refine HC.ent (l' := blk sb 120 (stoC jb g (saveSt s) q) :: dsk g (saveSt s).S [] :: jou jb g 32 m s.ep (32 + s.k) (s.Ls.map edsB) :: cfgR s.c q) (fun _ h => h) ?_
 refine hc_any [blk sb 120 (stoC jb g (saveSt s) q)] mixed 9 rfl ?_
 refine ha_v 0 rfl (ov_move rfl) rfl <| ha_v 1 rfl (ov_nil rfl) rfl <| ha_v 2 rfl (ov_fieldA rfl) rfl <| ha_v 3 rfl (zw rfl rfl) rfl <| ha_v 4 rfl (ov_move rfl) rfl <| ha_v 5 rfl (ov_nil rfl) rfl <| ha_v 6 rfl (ov_fieldA rfl) rfl <| ha_v 7 rfl (zw rfl rfl) rfl <| ha_one 8 Z61 <| ho_k rfl Tryz.call70 rfl (fun w1 => zp (jou jb g 32 m s.ep (32 + s.k) (s.Ls.map edsB)) fun D' _ _ H2 => Next_spec D' w1 jb g 32 m s.ep (32 + s.k) (s.Ls.map edsB) (s.ep + 1) H2) ?_
 refine ha_done Z61 <| zt <| zg <| zs rfl <| hl_nil <| ?_
 refine zt <| zq <| ?_
 exact zz rfl rfl fun w' H' => ⟨rfl, H'.ent (Ent.trans (b := blk sb 120 (stoC jb g (saveSt s) q) :: jou jb g 32 m (s.ep + 1) 32 [] :: (cfgR s.c q ++ [dsk g (saveSt s).S []])) Z8 (sto_mk (s := saveSt s) jb q))⟩
theorem SOpen_nil (p : Int) : Calls Tryz.prog 17 #[.pointer none, .int .i64 p] w fun e w' => e = .returned (.tuple #[.pointer none, .int .i64 1]) ∧ Own D w w' [] := by
 refine hc_enter (vs := [.pointer none, .int .i64 p]) Tryz.func17 rfl _ Tryz.ntmps17 rfl (Own.start D w) ?_
 simp only [argSlots, Nat.zero_add]
 refine zg <| zs rfl <| zs rfl <| zn <| hc_seq <| zg <| zm rfl <| hl_c Tryz.call44 rfl rfl (fun w1 => zun fun D' _ _ _ => Len_nil D' w1) ?_
 refine zv (ov_lss rfl rfl) <| zm rfl <| hl_partT (t := 14) rfl (Z63) ?_
 refine zo rfl rfl <| zo rfl rfl <| zv (ov_pickT rfl rfl) <| zm rfl <| zo rfl rfl <| zo rfl rfl <| zv (ov_pickT rfl rfl) <| zn <| hc_cond_true rfl <| zg <| zs rfl <| zs rfl <| zn <| zq <| zr <| ?_
 exact results_2 (.inr rfl) rfl rfl rfl fun w' H' => ⟨rfl, H'⟩
theorem SOpen_no (g : Nat) (S : List Sec) (p : Int) (hbad : S.length < 40 ∨ p < 1 ∨ 8 < p) (H : Own D w w [dsk g S []]) : Calls Tryz.prog 17 #[.pointer (some ⟨g, 0, none⟩), .int .i64 p] w fun e w' => e = .returned (.tuple #[.pointer none, .int .i64 1]) ∧ Own D w w' [dsk g S []] := by
 refine hc_enter (vs := [.pointer (some ⟨g, 0, none⟩), .int .i64 p]) Tryz.func17 rfl _ Tryz.ntmps17 rfl H ?_
 simp only [argSlots, Nat.zero_add]
 refine zg <| zs rfl <| zs rfl <| zn <| hc_seq <| zg <| zm rfl <| hl_c Tryz.call44 rfl rfl (fun w1 => zp (dsk g S []) fun D' _ _ H2 => Len_spec D' w1 g S [] H2) ?_
 refine zv (ov_lss rfl rfl) <| zm rfl <| hl_part (t := 14) rfl (fun c1 => ?_) (fun c1 => ?_)
 ·refine zo rfl rfl <| zo rfl rfl <| zv (ov_pickT rfl rfl) <| zm rfl <| zo rfl rfl <| zo rfl rfl <| zv (ov_pickT rfl rfl) <| zn <| hc_cond_true rfl <| zg <| zs rfl <| zs rfl <| zn <| zq <| zr <| ?_
  exact results_2 (.inr rfl) rfl rfl rfl fun w' H' => ⟨rfl, H'⟩
 refine hl_on rfl rfl <| zm rfl <| hl_on rfl rfl <| zv (ov_lss rfl rfl) <| zv (ov_pickF rfl rfl) <| zm rfl <| hl_part (t := 18) rfl (fun c2 => ?_) (fun c2 => ?_)
 ·refine zo rfl rfl <| zo rfl rfl <| zv (ov_pickT rfl rfl) <| zn <| hc_cond_true rfl <| zg <| zs rfl <| zs rfl <| zn <| zq <| zr <| ?_
  exact results_2 (.inr rfl) rfl rfl rfl fun w' H' => ⟨rfl, H'⟩
 refine hl_on rfl rfl <| zm rfl <| hl_on rfl rfl <| zv (ov_gtr rfl rfl) <| zv (ov_pickF rfl rfl) <| zn <| hc_cond_T rfl (Z64) ?_
 refine zg <| zs rfl <| zs rfl <| zn <| zq <| zr <| ?_
 exact results_2 (.inr rfl) rfl rfl rfl fun w' H' => ⟨rfl, H'⟩
theorem SOpen_ports (g m : Nat) (s : SSt) (p : Nat) (h : SI m s) (h1 : 1 ≤ p) (h8 : p ≤ 8) (hne : s.c0.2.2.2.1.length ≠ p) (H : Own D w w [dsk g s.S []]) : Calls Tryz.prog 17 #[.pointer (some ⟨g, 0, none⟩), .int .i64 (p : Int)] w fun e w' => e = .returned (.tuple #[.pointer none, .int .i64 11]) ∧ Own D w w' [dsk g s.S []] := by
 have hlen := h.len
 have hm := h.m40
 refine hc_enter (vs := [.pointer (some ⟨g, 0, none⟩), .int .i64 (p : Int)]) Tryz.func17 rfl _ Tryz.ntmps17 rfl H ?_
 simp only [argSlots, Nat.zero_add]
 refine zg <| zs rfl <| zs rfl <| zn <| hc_seq <| zg <| zm rfl <| hl_c Tryz.call44 rfl rfl (fun w1 => zp (dsk g s.S []) fun D' _ _ H2 => Len_spec D' w1 g s.S [] H2) ?_
 refine zv (ov_lss rfl rfl) <| zm rfl <| hl_partF (t := 14) rfl (Z64) ?_
 refine hl_on rfl rfl <| zm rfl <| hl_on rfl rfl <| zv (ov_lss rfl rfl) <| zv (ov_pickF rfl rfl) <| zm rfl <| hl_partF (t := 18) rfl (Z64) ?_
 refine hl_on rfl rfl <| zm rfl <| hl_on rfl rfl <| zv (ov_gtr rfl rfl) <| zv (ov_pickF rfl rfl) <| zn <| hc_cond_F rfl (Z64) ?_
 refine zk <| zg <| zm rfl <| zm rfl <| hl_call (σ := Option Addr × Nat) Tryz.call45 rfl rfl (fun w1 => zpx (dsk g s.S []) fun D' _ _ H2 => begin_old D' w1 g p s.S s.ep (cfgB s.c0) Z64 h.ld H2) ?_
 intro qb
 refine zm rfl <| zx rfl rfl <| zx rfl rfl <| zx rfl rfl <| zs rfl <| zs rfl <| zs rfl <| zn <| hc_seq <| zg <| zm rfl <| zv (ov_neq rfl rfl) <| zn <| hc_cond_F rfl ((fun h => h rfl)) <| zk <| zg <| zm rfl <| hl_call (σ := Three) Tryz.call46 rfl rfl (fun w1 => zu fun D' _ hin _ => Parse_g D' w1 _ s.c0 h.g0 (hin _ fun h hs ho => rep_row (A := qb.1) hs (cfgB s.c0) rfl (repL_bytes.2 rfl))) ?_
 intro qc
 try rw [List.nil_append]
 refine zm rfl <| zx rfl rfl <| zx rfl rfl <| hl_new (on_alloc) rfl rfl rfl fun b9 =>  ?_
 refine hl_u0 (on_storeW (vs := cfgA s.c0 qc) rfl rfl rfl (by simp) Z49) rfl rfl ?_
 refine zs rfl <| zn <| hc_seq <| zg <| zm rfl <| zv (ov_neq rfl rfl) <| zm rfl <| hl_partF (t := 39) rfl ((fun h => h rfl)) <| hl_on rfl rfl <| zf rfl <| hl_on rfl rfl <| zl rfl rfl <| hl_on rfl rfl <| zv Z25 <| ?_
 refine hl_on rfl rfl <| zm rfl <| hl_on rfl rfl <| zv (ov_neq rfl rfl) <| zv (ov_pickF rfl rfl) <| zn <| hc_cond_T rfl (Z64) ?_
 refine zg <| zs rfl <| zs rfl <| zn <| zq <| zr <| ?_
 exact results_2 (.inr rfl) rfl rfl rfl fun w' H' => ⟨rfl, H'.ent Z8⟩
set_option maxHeartbeats 1000000 in
theorem SOpen_gen (g m : Nat) (Sa : List Sec) (s : SSt) (p : Nat) (h : SI m s) (hm2 : m ≤ 100000) (hep : s.ep < 4294967296) (h1 : 1 ≤ p) (h8 : p ≤ 8) (hp : s.c0.2.2.2.1.length = p) (hSa : Sa.length = m)
  (hb : ∀ D w, Own D w w [dsk g Sa []] → Calls Tryz.prog 45 #[.pointer (some ⟨g, 0, none⟩), .int .i64 (p : Int)] w fun e w' => ∃ q : Option Addr × Nat, e = .returned (.tuple #[.int .u32 (s.ep : Int), .slice q.1 (cfgB s.c0).length q.2, .int .i64 0]) ∧ Own D w w' [dsk g s.S [], row q.1 5 1 (cfgB s.c0).length q.2 ((cfgB s.c0).map u8v)])
  (H : Own D w w [dsk g Sa []]) : Calls Tryz.prog 17 #[.pointer (some ⟨g, 0, none⟩), .int .i64 (p : Int)] w fun e w' => ∃ sb : Nat, e = .returned (.tuple #[.pointer (some ⟨sb, 0, none⟩), .int .i64 0]) ∧ Own D w w' [sto sb g m s, dsk g s.S []] := by
 have hlen := h.len
 have hm := h.m40
 have hk := h.kle
 have hmany := h.many
 have hreg := h.reg
 have hE : entsF s.ep (m - 32) 0 (regS s.S) = (s.Ls.map edsB, s.k) := by
  have := h.ji.open hep Z64
  rwa [hreg] at this
 have hT : regS s.S = (s.S.drop 32).take (m - 32) := by
  show s.S.drop 32 = _
  rw [List.take_of_length_le Z40]
 have hsml : ∀ x ∈ s.Ls.map edsB, x.length ≤ 1000000 := fun x hx => by
  obtain ⟨l, hl, rfl⟩ := List.mem_map.1 hx
  have := edsB_small (h.oks l hl).1.1
  omega
 have hml : (s.Ls.map edsB).length = s.Ls.length := List.length_map _
 refine hc_enter (vs := [.pointer (some ⟨g, 0, none⟩), .int .i64 (p : Int)]) Tryz.func17 rfl _ Tryz.ntmps17 rfl H ?_
 simp only [argSlots, Nat.zero_add]
 refine zg <| zs rfl <| zs rfl <| zn <| hc_seq <| zg <| zm rfl <| hl_c Tryz.call44 rfl rfl (fun w1 => zp (dsk g Sa []) fun D' _ _ H2 => Len_spec D' w1 g Sa [] H2) ?_
 refine zv (ov_lss rfl rfl) <| zm rfl <| hl_partF (t := 14) rfl (Z64) ?_
 refine hl_on rfl rfl <| zm rfl <| hl_on rfl rfl <| zv (ov_lss rfl rfl) <| zv (ov_pickF rfl rfl) <| zm rfl <| hl_partF (t := 18) rfl (Z64) ?_
 refine hl_on rfl rfl <| zm rfl <| hl_on rfl rfl <| zv (ov_gtr rfl rfl) <| zv (ov_pickF rfl rfl) <| zn <| hc_cond_F rfl (Z64) ?_
 refine zk <| zg <| zm rfl <| zm rfl <| hl_call (σ := Option Addr × Nat) Tryz.call45 rfl rfl (fun w1 => zpx (dsk g Sa []) fun D' _ _ H2 => hb D' w1 H2) ?_
 intro qb
 refine zm rfl <| zx rfl rfl <| zx rfl rfl <| zx rfl rfl <| zs rfl <| zs rfl <| zs rfl <| zn <| hc_seq <| zg <| zm rfl <| zv (ov_neq rfl rfl) <| zn <| hc_cond_F rfl ((fun h => h rfl)) <| zk <| zg <| zm rfl <| hl_call (σ := Three) Tryz.call46 rfl rfl (fun w1 => zu fun D' _ hin _ => Parse_g D' w1 _ s.c0 h.g0 (hin _ fun h hs ho => rep_row (A := qb.1) hs (cfgB s.c0) rfl (repL_bytes.2 rfl))) ?_
 intro qc
 try rw [List.nil_append]
 refine zm rfl <| zx rfl rfl <| zx rfl rfl <| hl_new (on_alloc) rfl rfl rfl fun b9 =>  ?_
 refine hl_u0 (on_storeW (vs := cfgA s.c0 qc) rfl rfl rfl (by simp) Z49) rfl rfl ?_
 refine zs rfl <| zn <| hc_seq <| zg <| zm rfl <| zv (ov_neq rfl rfl) <| zm rfl <| hl_partF (t := 39) rfl ((fun h => h rfl)) <| hl_on rfl rfl <| zf rfl <| hl_on rfl rfl <| zl rfl rfl <| hl_on rfl rfl <| zv Z25 <| ?_
 refine hl_on rfl rfl <| zm rfl <| hl_on rfl rfl <| zv (ov_neq rfl rfl) <| zv (ov_pickF rfl rfl) <| zn <| hc_cond_F rfl (Z64) ?_
 refine zk <| zg <| zm rfl <| zm rfl <| hl_c Tryz.call44 rfl rfl (fun w1 => zp (dsk g s.S []) fun D' _ _ H2 => Len_spec D' w1 g s.S [] H2) ?_
 rw [hlen]
 refine zm rfl <| hl_call (σ := Nat) Tryz.call47 rfl rfl (fun w1 => zpx (dsk g s.S []) fun D' _ _ H2 => JOpen_is D' w1 g s.S 32 m (m - 32) (regS s.S) s.ep (s.Ls.map edsB) s.k (32 + s.k) hE rfl Z64 Z64 Z64 Z64 hT H2) ?_
 intro jb
 refine zm rfl <| zx rfl rfl <| zx rfl rfl <| zs rfl <| zs rfl <| hl_nil <| zt <| hc_seq <| zg <| zm rfl <| zv (ov_neq rfl rfl) <| zn <| hc_cond_F rfl ((fun h => h rfl)) <| zk <| hc_seq <| hc_seq <| hc_any [] mixed 9 rfl ?_
 refine ha_v 1 rfl (ov_move rfl) rfl <| ha_two 0 2 Z61 ?_ ?_
 ·skip
  refine ho_v rfl (ov_loadW rfl rfl) rfl <| ha_one 2 Z61 <| ho_kx (σ := Option Addr × Nat × List Value) rfl Tryz.call49 rfl (fun w1 => zpx (jou jb g 32 m s.ep (32 + s.k) (s.Ls.map edsB)) fun D' _ _ H2 => All_spec D' w1 jb g 32 m s.ep (32 + s.k) (s.Ls.map edsB) Z64 hsml H2) ?_
  rintro ⟨A7, cap7, cs7⟩
  refine ha_one 3 Z61 <| ho_kx (σ := Three) rfl Tryz.call48 rfl (fun w1 H1 => Own.callpx3 (row qc.1.1 83 3 s.c0.2.2.2.1.length qc.1.2 (s.c0.2.2.2.1.flatMap portV)) (row qc.2.1.1 147 3 s.c0.2.2.2.2.1.length qc.2.1.2 (s.c0.2.2.2.2.1.flatMap vlanV)) (row qc.2.2.1 149 3 s.c0.2.2.2.2.2.length qc.2.2.2 (s.c0.2.2.2.2.2.flatMap statV)) H1 fun D' _ hin H2 => replay_spec D' w1 s.c0 qc _ s.Ls s.c h.ok0 h.rep h.oks (hin _ fun h hs ho => rep_row (A := A7) hs (s.Ls.map edsB) rfl (stars_rowsB (t := 5) (xs := s.Ls.map edsB) (cs := cs7) hs)) H2) ?_
  intro qd
  refine ha_v 4 rfl (ov_move rfl) rfl <| ha_v 5 rfl (ov_extract rfl rfl) rfl <| ha_v 6 rfl (ov_extract rfl rfl) rfl <| ha_one 7 Z61 <| ho_w0 rfl (on_storeW (vs := cfgA s.c qd) rfl rfl rfl (by simp) Z49) rfl ?_
  refine ha_v 8 rfl (ov_assign rfl) rfl <| ha_done Z61 <| ?_
  refine zt <| zg <| zm rfl <| zv (ov_neq rfl rfl) <| hl_nil <| zt <| hc_cond_F rfl ((fun h => h rfl)) <| zk <| zg <| zm rfl <| zm rfl <| hl_v (ov_loadW rfl rfl) rfl ?_
  dsimp only [List.getElem_toArray, List.getElem_cons_zero, List.getElem_cons_succ]
  refine zm rfl <| zv (ov_buildSN rfl rfl) <| ?_
  refine hl_new (on_boxN rfl rfl) rfl rfl rfl fun b72 =>  ?_
  refine zs rfl <| zs rfl <| zn <| zq <| ?_
  exact results_2 (.inr rfl) rfl rfl rfl fun w' H' => ⟨b72, rfl, H'.ent (Ent.trans (b := blk b72 120 (stoC jb g s qd) :: jou jb g 32 m s.ep (32 + s.k) (s.Ls.map edsB) :: (cfgR s.c qd ++ [dsk g s.S []])) Z8 (sto_mk jb qd))⟩
 skip
 refine ho_kx (σ := Option Addr × Nat × List Value) rfl Tryz.call49 rfl (fun w1 => zpx (jou jb g 32 m s.ep (32 + s.k) (s.Ls.map edsB)) fun D' _ _ H2 => All_spec D' w1 jb g 32 m s.ep (32 + s.k) (s.Ls.map edsB) Z64 hsml H2) ?_
 rintro ⟨A7, cap7, cs7⟩
 refine ha_one 0 Z61 <| ho_v rfl (ov_loadW rfl rfl) rfl <| ha_one 3 Z61 <| ho_kx (σ := Three) rfl Tryz.call48 rfl (fun w1 H1 => Own.callpx3 (row qc.1.1 83 3 s.c0.2.2.2.1.length qc.1.2 (s.c0.2.2.2.1.flatMap portV)) (row qc.2.1.1 147 3 s.c0.2.2.2.2.1.length qc.2.1.2 (s.c0.2.2.2.2.1.flatMap vlanV)) (row qc.2.2.1 149 3 s.c0.2.2.2.2.2.length qc.2.2.2 (s.c0.2.2.2.2.2.flatMap statV)) H1 fun D' _ hin H2 => replay_spec D' w1 s.c0 qc _ s.Ls s.c h.ok0 h.rep h.oks (hin _ fun h hs ho => rep_row (A := A7) hs (s.Ls.map edsB) rfl (stars_rowsB (t := 5) (xs := s.Ls.map edsB) (cs := cs7) hs)) H2) ?_
 intro qd
 refine ha_v 4 rfl (ov_move rfl) rfl <| ha_v 5 rfl (ov_extract rfl rfl) rfl <| ha_v 6 rfl (ov_extract rfl rfl) rfl <| ha_one 7 Z61 <| ho_w0 rfl (on_storeW (vs := cfgA s.c qd) rfl rfl rfl (by simp) Z49) rfl ?_
 refine ha_v 8 rfl (ov_assign rfl) rfl <| ha_done Z61 <| ?_
 refine zt <| zg <| zm rfl <| zv (ov_neq rfl rfl) <| hl_nil <| zt <| hc_cond_F rfl ((fun h => h rfl)) <| zk <| zg <| zm rfl <| zm rfl <| hl_v (ov_loadW rfl rfl) rfl ?_
 dsimp only [List.getElem_toArray, List.getElem_cons_zero, List.getElem_cons_succ]
 refine zm rfl <| zv (ov_buildSN rfl rfl) <| ?_
 refine hl_new (on_boxN rfl rfl) rfl rfl rfl fun b72 =>  ?_
 refine zs rfl <| zs rfl <| zn <| zq <| ?_
 exact results_2 (.inr rfl) rfl rfl rfl fun w' H' => ⟨b72, rfl, H'.ent (Ent.trans (b := blk b72 120 (stoC jb g s qd) :: jou jb g 32 m s.ep (32 + s.k) (s.Ls.map edsB) :: (cfgR s.c qd ++ [dsk g s.S []])) Z8 (sto_mk jb qd))⟩
theorem SOpen_old (g m : Nat) (s : SSt) (p : Nat) (h : SI m s) (hm2 : m ≤ 100000) (hep : s.ep < 4294967296) (h1 : 1 ≤ p) (h8 : p ≤ 8) (hp : s.c0.2.2.2.1.length = p) (H : Own D w w [dsk g s.S []]) :
  Calls Tryz.prog 17 #[.pointer (some ⟨g, 0, none⟩), .int .i64 (p : Int)] w fun e w' => ∃ sb : Nat, e = .returned (.tuple #[.pointer (some ⟨sb, 0, none⟩), .int .i64 0]) ∧ Own D w w' [sto sb g m s, dsk g s.S []] :=
 SOpen_gen D w g m s.S s p h hm2 hep h1 h8 hp h.len (fun D w H => begin_old D w g p s.S s.ep (cfgB s.c0) (by have := h.len; have := h.m40; omega) h.ld H) H
theorem SOpen_new (g m p : Nat) (hm : 40 ≤ m) (hm2 : m ≤ 100000) (h1 : 1 ≤ p) (h8 : p ≤ 8) (S : List Sec) (hS : S = List.replicate m zeroSec) (H : Own D w w [dsk g S []]) :
  Calls Tryz.prog 17 #[.pointer (some ⟨g, 0, none⟩), .int .i64 (p : Int)] w fun e w' => ∃ sb : Nat, e = .returned (.tuple #[.pointer (some ⟨sb, 0, none⟩), .int .i64 0]) ∧ Own D w w' [sto sb g m (firstSt m p), dsk g (firstSt m p).S []] := by
 have hl : S.length = m := by rw [hS]; exact List.length_replicate
 have hok := firstSt_ok hm h1 h8
 refine SOpen_gen D w g m S (firstSt m p) p hok hm2 (show 1 < 4294967296 by decide) h1 h8 List.length_replicate hl (fun D w H => ?_) H
 exact begin_new D w g p S (firstSt m p).S Z64 h1 h8 (loadE_none (by rw [hS]; exact blank_new Z64)) (by rw [hS]; rfl) hok.ld H
set_option maxHeartbeats 2000000 in
theorem Commit_spec (sb g m : Nat) (s : SSt) (v : Value) (l : List EditC) (h : SI m s) (hm2 : m ≤ 100000) (hep : s.ep < 4294967290) (hll : l.length ≤ 1000000) (HA : Old D w (Rep.rep l [v])) (H : Own D w w [sto sb g m s, dsk g s.S []]) :
  Calls Tryz.prog 19 #[.pointer (some ⟨sb, 0, none⟩), v] w fun e w' => e = .returned (.int .i64 (commR m s l).1) ∧ Own D w w' [sto sb g m (commR m s l).2, dsk g (commR m s l).2.S []] := by
 obtain ⟨Al, cl, rfl, _, _, _, hfl⟩ := HA.openF
 have hlen := h.len
 have hm := h.m40
 have hk := h.kle
 have hmany := h.many
 have hml : (s.Ls.map edsB).length = s.Ls.length := List.length_map _
 obtain ⟨c2, er, hed⟩ : ∃ c2 er, edF s.c l = (c2, er) := ⟨_, _, rfl⟩
 refine hc_enter (vs := [.pointer (some ⟨sb, 0, none⟩), .slice Al l.length cl]) Tryz.func19 rfl _ Tryz.ntmps19 rfl H ?_
 simp only [argSlots, Nat.zero_add]
 refine HC.exs ?_
 rintro ⟨jb, q⟩
 refine HC.ent (l' := blk sb 120 (stoC jb g s q) :: jou jb g 32 m s.ep (32 + s.k) (s.Ls.map edsB) :: (cfgR s.c q ++ [dsk g s.S []])) (fun _ h => h) ?_
 refine zg <| zs rfl <| zn <| hc_seq <| zg <| zm rfl <| zv (ov_eqlP rfl rfl) <| zn <| hc_cond_false rfl <| zk <| zg <| zm rfl <| zv (ov_nil rfl) <| zf rfl <| ?_
 refine hl_v (ov_loadGB (vs := cfgA s.c q) rfl rfl) rfl <| zm rfl <| hl_call (σ := Three) Tryz.call56 rfl rfl (fun w1 => zu fun D' hold hin _ => Edit_is D' w1 s.c _ _ _ _ l c2 er hed hll (ConfOld.rows (q := q) h.okc hin) (hold _ HA)) ?_
 intro qd
 try rw [List.nil_append]
 refine zm rfl <| zx rfl rfl <| zx rfl rfl <| hl_new (on_alloc) rfl rfl rfl fun b5 =>  ?_
 refine hl_u0 (on_storeW (vs := cfgA c2 qd) rfl rfl rfl (by simp) Z49) rfl rfl ?_
 refine zs rfl <| zn <| hc_seq <| zg <| zm rfl <| zv (ov_neq rfl rfl) <| zn <| hc_cond rfl (fun he => ?_) (fun he => ?_)
 ·have hc : commR m s l = (er, s) := by unfold commR; rw [hed, if_pos he]
  refine zg <| zm rfl <| zs rfl <| zn <| zq <| zr <| ?_
  exact zz rfl rfl fun w' H' => ⟨by rw [hc]; rfl, by rw [hc]; exact H'.ent (Ent.trans (b := blk sb 120 (stoC jb g s q) :: jou jb g 32 m s.ep (32 + s.k) (s.Ls.map edsB) :: (cfgR s.c q ++ [dsk g s.S []])) Z8 (sto_mk jb q))⟩
 have he : er = 0 := Classical.not_not.1 he
 subst he
 have h0 : (edF s.c l).2 = 0 := by rw [hed]
 have hl32 : l.length ≤ 32 := (edF_ok h0).2.1
 have hsm := edsB_small hl32
 have hc2 : c2 = (edF s.c l).1 := by rw [hed]
 by_cases hok : okEds l
 ·obtain ⟨n, hn⟩ : ∃ n, needM (edsB l).length = n := ⟨_, rfl⟩
  refine zk <| zg <| zm rfl <| hl_call (σ := Option Addr × Nat) Tryz.call57 rfl rfl (fun w1 => zu fun D' hold _ _ => Edits_g D' w1 _ l hok (hold _ HA)) ?_
  intro qe
  try rw [List.nil_append]
  refine zm rfl <| zx rfl rfl <| zx rfl rfl <| zs rfl <| zs rfl <| hl_nil <| zt <| hc_seq <| zg <| zm rfl <| zv (ov_neq rfl rfl) <| zn <| hc_cond_F rfl ((fun h => h rfl)) <| zk <| hc_seq <| zg <| zm rfl <| zv (ov_nil rfl) <| zf rfl <| zl rfl rfl <| zm rfl <| hl_new (on_buildSliceN rfl rfl rfl) rfl rfl rfl fun b35 =>  ?_
  by_cases hfit : n ≤ m - 32 - s.k
  ·obtain ⟨sN, hsN⟩ : ∃ sN, sN = appSt s l := ⟨_, rfl⟩
   have hc : commR m s l = (0, sN) := by unfold commR; rw [hed, if_neg (fun h => h rfl), if_neg (fun h => h hok), hn, if_pos hfit, hsN]
   have hS' : sN.S = putS s.S (32 + s.k) (encE (jouE s.ep (s.Ls.map edsB).length (edsB l))) := by rw [hsN, hml]; rfl
   have hL' : sN.Ls.map edsB = s.Ls.map edsB ++ [edsB l] := by rw [hsN]; show (s.Ls ++ [l]).map edsB = _; rw [List.map_append]; rfl
   have hk' : 32 + sN.k = 32 + s.k + n := by rw [hsN]; show 32 + (s.k + needM (edsB l).length) = _; omega
   have hcN : sN.c = c2 := by rw [hsN, hc2]; rfl
   have heN : sN.ep = s.ep := by rw [hsN]; rfl
   rw [hc]
   subst hcN
   refine hl_c Tryz.call58 rfl rfl (fun w1 H1 => Own.callp2 (jou jb g 32 m s.ep (32 + s.k) (s.Ls.map edsB)) (dsk g s.S []) H1 fun D' _ hin H2 => Append_is D' w1 jb g 32 m s.ep (32 + s.k) (s.Ls.map edsB) [edsB l] _ s.S (edsB l) n (32 + sN.k) (sN.Ls.map edsB) sN.S (by simp) hn hk' hL' hS' Z64 Z64 Z64 Z64 Z64 Z64 Z64 (hin _ fun h hs ho => rep_lits (b := b35) hs [edsB l] ⟨[_], [], rfl, rep_row (A := qe.1) hs (edsB l) rfl (repL_bytes.2 rfl), rfl⟩ (by simp)) H2) ?_
   rw [← heN]
   obtain ⟨jb2, hjb2⟩ : ∃ x, x = jb := ⟨_, rfl⟩
   rw [← hjb2]
   refine zs rfl <| zn <| zg <| zm rfl <| zv (ov_eql rfl rfl) <| zn <| hc_cond_F rfl (Z63) ?_
   refine zk <| hc_seq <| zg <| zm rfl <| zv (ov_neq rfl rfl) <| zn <| hc_cond_F rfl ((fun h => h rfl)) <| zk <| zg <| zm rfl <| hl_v (ov_loadW rfl rfl) rfl <| zv (ov_nil rfl) <| zf rfl <| ?_
   refine hl_u0 (on_storeGE (stoC jb2 g sN qd) rfl rfl rfl (by simp) Z49 (by unfold stoC; rw [heN]; rfl)) rfl rfl ?_
   refine zn <| zg <| zs rfl <| hl_nil <| zt <| zq <| ?_
   exact zz rfl rfl fun w' H' => ⟨rfl, H'.ent (Ent.trans (b := blk sb 120 (stoC jb2 g sN qd) :: jou jb2 g 32 m sN.ep (32 + sN.k) (sN.Ls.map edsB) :: (cfgR sN.c qd ++ [dsk g sN.S []])) Z8 (sto_mk (s := sN) jb2 qd))⟩
  refine hl_c Tryz.call58 rfl rfl (fun w1 => zp (jou jb g 32 m s.ep (32 + s.k) (s.Ls.map edsB)) fun D' _ hin H2 => Append_full D' w1 jb g 32 m s.ep (32 + s.k) (s.Ls.map edsB) [edsB l] _ Z64 Z64 Z58 Z58 (hin _ fun h hs ho => rep_lits (b := b35) hs [edsB l] ⟨[_], [], rfl, rep_row (A := qe.1) hs (edsB l) rfl (repL_bytes.2 rfl), rfl⟩ (by simp)) H2) ?_
  refine HL.ent (Ent.trans (b := blk sb 120 (stoC jb g s q) :: jou jb g 32 m s.ep (32 + s.k) (s.Ls.map edsB) :: (cfgR s.c q ++ [dsk g s.S [], row qe.1 5 1 (edsB l).length qe.2 ((edsB l).map u8v), blk b5 49 (cfgA c2 qd), row qd.1.1 83 3 c2.2.2.2.1.length qd.1.2 (c2.2.2.2.1.flatMap portV), row qd.2.1.1 147 3 c2.2.2.2.2.1.length qd.2.1.2 (c2.2.2.2.2.1.flatMap vlanV), row qd.2.2.1 149 3 c2.2.2.2.2.2.length qd.2.2.2 (c2.2.2.2.2.2.flatMap statV)])) Z8 (sto_mk jb q)) ?_
  have h1 := saveSt_ok h hep
  obtain ⟨s1, hs1⟩ : ∃ s1, s1 = saveSt s := ⟨_, rfl⟩
  have hs1k : s1.k = 0 := by rw [hs1]; rfl
  have hs1c : s1.c = s.c := by rw [hs1]; rfl
  have hs1L : s1.Ls = [] := by rw [hs1]; rfl
  have hs1e : s1.ep = s.ep + 1 := by rw [hs1]; rfl
  rw [← hs1] at h1
  have hl1 := h1.len
  refine zs rfl <| zn <| zg <| zm rfl <| zv (ov_eql rfl rfl) <| zn <| hc_cond_T rfl (rfl) <| zg <| zm rfl <| hl_c Tryz.call31 rfl rfl (fun w1 H1 => Own.callp2 (sto sb g m s) (dsk g s.S []) H1 fun D' _ _ H2 => SSave_spec D' w1 sb g m s h hep H2) ?_
  rw [← hs1]
  refine zs rfl <| zn <| zg <| zm rfl <| zv (ov_eql rfl rfl) <| zn <| hc_cond_T rfl (rfl) <| HC.exs ?_
  rintro ⟨jb2, q2⟩
  refine HC.ent (l' := blk sb 120 (stoC jb2 g s1 q2) :: jou jb2 g 32 m s1.ep (32 + s1.k) (s1.Ls.map edsB) :: (cfgR s1.c q2 ++ [dsk g s1.S [], row qe.1 5 1 (edsB l).length qe.2 ((edsB l).map u8v), blk b5 49 (cfgA c2 qd), row qd.1.1 83 3 c2.2.2.2.1.length qd.1.2 (c2.2.2.2.1.flatMap portV), row qd.2.1.1 147 3 c2.2.2.2.2.1.length qd.2.1.2 (c2.2.2.2.2.1.flatMap vlanV), row qd.2.2.1 149 3 c2.2.2.2.2.2.length qd.2.2.2 (c2.2.2.2.2.2.flatMap statV)])) (fun _ h => h) ?_
  refine hc_region <| zm rfl <| zv (ov_nil rfl) <| zf rfl <| zl rfl rfl <| zm rfl <| ?_
  refine hl_new (on_buildSliceN rfl rfl rfl) rfl rfl rfl fun b48 =>  ?_
  by_cases hfit2 : n ≤ m - 32
  ·obtain ⟨sN, hsN⟩ : ∃ sN, sN = appSt s1 l := ⟨_, rfl⟩
   have hc : commR m s l = (0, sN) := by unfold commR; rw [hed, if_neg (fun h => h rfl), if_neg (fun h => h hok), hn, if_neg hfit, if_pos hfit2, hsN, hs1]
   have hS' : sN.S = putS s1.S (32 + s1.k) (encE (jouE s1.ep (s1.Ls.map edsB).length (edsB l))) := by rw [hsN, List.length_map]; rfl
   have hL' : sN.Ls.map edsB = s1.Ls.map edsB ++ [edsB l] := by rw [hsN]; show (s1.Ls ++ [l]).map edsB = _; rw [List.map_append]; rfl
   have hk' : 32 + sN.k = 32 + s1.k + n := by rw [hsN]; show 32 + (s1.k + needM (edsB l).length) = _; omega
   have hcN : sN.c = c2 := by rw [hsN, hc2]; show (edF s1.c l).1 = _; rw [hs1c]
   have heN : sN.ep = s1.ep := by rw [hsN]; rfl
   rw [hc]
   subst hcN
   refine hl_c Tryz.call58 rfl rfl (fun w1 H1 => Own.callp2 (jou jb2 g 32 m s1.ep (32 + s1.k) (s1.Ls.map edsB)) (dsk g s1.S []) H1 fun D' _ hin H2 => Append_is D' w1 jb2 g 32 m s1.ep (32 + s1.k) (s1.Ls.map edsB) [edsB l] _ s1.S (edsB l) n (32 + sN.k) (sN.Ls.map edsB) sN.S (by simp) hn hk' hL' hS' Z64 Z64 Z64 Z64 Z64 Z64 (by rw [hs1L]; decide) (hin _ fun h hs ho => rep_lits (b := b48) hs [edsB l] ⟨[_], [], rfl, rep_row (A := qe.1) hs (edsB l) rfl (repL_bytes.2 rfl), rfl⟩ (by simp)) H2) ?_
   rw [← heN]
   refine zs rfl <| zn <| hc_seq <| zg <| zm rfl <| zv (ov_neq rfl rfl) <| zn <| hc_cond_F rfl ((fun h => h rfl)) <| zk <| zg <| zm rfl <| hl_v (ov_loadW rfl rfl) rfl <| zv (ov_nil rfl) <| zf rfl <| ?_
   refine hl_u0 (on_storeGE (stoC jb2 g sN qd) rfl rfl rfl (by simp) Z49 (by unfold stoC; rw [heN]; rfl)) rfl rfl ?_
   refine zn <| zg <| zs rfl <| hl_nil <| zt <| zq <| ?_
   exact zz rfl rfl fun w' H' => ⟨rfl, H'.ent (Ent.trans (b := blk sb 120 (stoC jb2 g sN qd) :: jou jb2 g 32 m sN.ep (32 + sN.k) (sN.Ls.map edsB) :: (cfgR sN.c qd ++ [dsk g sN.S []])) Z8 (sto_mk (s := sN) jb2 qd))⟩
  have hc : commR m s l = (12, s1) := by unfold commR; rw [hed, if_neg (fun h => h rfl), if_neg (fun h => h hok), hn, if_neg hfit, if_neg hfit2, hs1]
  rw [hc]
  refine hl_c Tryz.call58 rfl rfl (fun w1 => zp (jou jb2 g 32 m s1.ep (32 + s1.k) (s1.Ls.map edsB)) fun D' _ hin H2 => Append_full D' w1 jb2 g 32 m s1.ep (32 + s1.k) (s1.Ls.map edsB) [edsB l] _ Z64 Z64 Z58 Z58 (hin _ fun h hs ho => rep_lits (b := b48) hs [edsB l] ⟨[_], [], rfl, rep_row (A := qe.1) hs (edsB l) rfl (repL_bytes.2 rfl), rfl⟩ (by simp)) H2) ?_
  refine zs rfl <| zn <| hc_seq <| zg <| zm rfl <| zv (ov_neq rfl rfl) <| zn <| hc_cond_T rfl (Z63) ?_
  refine zg <| zm rfl <| zs rfl <| zn <| zq <| zr <| ?_
  exact zz rfl rfl fun w' H' => ⟨rfl, H'.ent (Ent.trans (b := blk sb 120 (stoC jb2 g s1 q2) :: jou jb2 g 32 m s1.ep (32 + s1.k) (s1.Ls.map edsB) :: (cfgR s1.c q2 ++ [dsk g s1.S []])) Z8 (sto_mk jb2 q2))⟩
 have hc : commR m s l = (11, s) := by unfold commR; rw [hed, if_neg (fun h => h rfl), if_pos hok]
 rw [hc]
 refine zk <| zg <| zm rfl <| hl_c Tryz.call57 rfl rfl (fun w1 => zun fun D' hold _ _ => Edits_b D' w1 _ l hl32 hok (hold _ HA)) ?_
 refine zm rfl <| zx rfl rfl <| zx rfl rfl <| zs rfl <| zs rfl <| hl_nil <| zt <| hc_seq <| zg <| zm rfl <| zv (ov_neq rfl rfl) <| zn <| hc_cond_T rfl (Z63) ?_
 refine zg <| zm rfl <| zs rfl <| zn <| zq <| zr <| ?_
 exact zz rfl rfl fun w' H' => ⟨rfl, H'.ent (Ent.trans (b := blk sb 120 (stoC jb g s q) :: jou jb g 32 m s.ep (32 + s.k) (s.Ls.map edsB) :: (cfgR s.c q ++ [dsk g s.S []])) Z8 (sto_mk jb q))⟩
def lA : List EditC := [(1, 0, 4096, 0, 0, 0, 0)]
def lB : List EditC := [(1, 0, 5, 0, 0, 0, 0)]
def dA : ConfC := (4096, 20, 15, [(true, 20000, 1), (true, 20000, 1)], [(1, 3, 0)], [])
def dB : ConfC := (5, 20, 15, [(true, 20000, 1), (true, 20000, 1)], [(1, 3, 0)], [])
theorem lA_fold : foldC (firstC 2) lA = (dA, 0) := by decide +kernel
theorem lB_fold : foldC dA lB = (dB, 0) := by decide +kernel
theorem dA_good : goodP dA := by decide +kernel
theorem dB_bad : ¬ goodP dB := by decide +kernel
theorem lA_eds : okEds lA := by decide +kernel
theorem lA_ok : ∀ x ∈ lA, Flat.ok x := fun x hx => by
 have : x = (1, 0, 4096, 0, 0, 0, 0) := by simpa [lA] using hx
 subst this; exact editOk1 _ ⟨by decide, by decide⟩ ⟨by decide, by decide⟩ (inI _ ⟨by decide, by decide⟩) ⟨by decide, by decide⟩
theorem lB_ok : ∀ x ∈ lB, Flat.ok x := fun x hx => by
 have : x = (1, 0, 5, 0, 0, 0, 0) := by simpa [lB] using hx
 subst this; exact editOk1 _ ⟨by decide, by decide⟩ ⟨by decide, by decide⟩ (inI _ ⟨by decide, by decide⟩) ⟨by decide, by decide⟩
theorem firstC2 : goodP (firstC 2) := firstC_good 2 Z63 Z63
theorem lA_ed : edF (firstC 2) lA = (dA, 0) := (edF_R _ _).ok firstC2 Z63 lA_fold dA_good
theorem lB_ed : edF dA lB = (zeroC, 14) := (edF_R _ _).no dA_good Z63 lB_fold dB_bad
theorem wake8_facts : ∃ s2, commR 44 (firstSt 44 2) lA = (0, s2) ∧ SI 44 s2 ∧ s2.c = dA ∧ s2.ep = 1 ∧ s2.c0 = firstC 2 ∧ commR 44 s2 lB = (14, s2) := by
 have h1 := firstSt_ok (m := 44) (p := 2) Z63 Z63 Z63
 have hn : needM (edsB lA).length ≤ 44 - 32 := by
  rw [edsB_len]
  show needM (1 + 16 * 1) ≤ 12
  decide
 have hc : commR 44 (firstSt 44 2) lA = (0, appSt (firstSt 44 2) lA) := by
  unfold commR
  have he : edF (firstSt 44 2).c lA = (dA, 0) := lA_ed
  rw [he, if_neg (fun h => h rfl), if_neg (fun h => h lA_eds)]
  exact if_pos (show _ ≤ 44 - 32 - 0 from hn)
 have h2 := commR_ok h1 lA_ok (show 1 < 4294967290 by decide)
 rw [hc] at h2
 have hc2 : (appSt (firstSt 44 2) lA).c = dA := by show (edF (firstC 2) lA).1 = _; rw [lA_ed]
 refine ⟨_, hc, h2.1, hc2, rfl, rfl, ?_⟩
 unfold commR
 rw [hc2, lB_ed, if_pos Z63]
theorem Crash_none (g : Nat) (S : List Sec) (H : Own D w w [dsk g S []]) :
  Calls Tryz.prog 25 #[.pointer (some ⟨g, 0, none⟩), .slice none 0 0] w fun e w' => e = .returned (.tuple #[]) ∧ Own D w w' [dsk g S []] := Crash_spec D w g S [] (.slice none 0 0) [] (fun p hp => by cases hp) Old.nil H
set_option maxHeartbeats 1000000 in
theorem wakes8_spec : Calls Tryz.prog 13 #[] w fun e w' => e = .returned (.bool true) ∧ Own D w w' [] := by
 obtain ⟨s1, hs1⟩ : ∃ s, s = firstSt 44 2 := ⟨_, rfl⟩
 obtain ⟨s2, f1, f2, f3, f4, f5, f6⟩ := wake8_facts
 rw [← hs1] at f1
 have k1 : SI 44 s1 := by rw [hs1]; exact firstSt_ok Z63 Z63 Z63
 have e1 : s1.ep = 1 := by rw [hs1]; rfl
 have k3 := saveSt_ok f2 Z64
 obtain ⟨s3, hs3⟩ : ∃ s, s = saveSt s2 := ⟨_, rfl⟩
 have e3 : s3.ep = 2 := by rw [hs3]; show s2.ep + 1 = 2; omega
 obtain ⟨S0, hS0⟩ : ∃ S, S = List.replicate 44 zeroSec := ⟨_, rfl⟩
 have hpl : s2.c0.2.2.2.1.length = 2 := by rw [f5]; rfl
 have hcl : s2.c.2.2.2.1.length = 2 := by rw [f3]; rfl
 refine hc_enter (vs := []) Tryz.func13 rfl _ Tryz.ntmps13 rfl (Own.start D w) ?_
 simp only [argSlots, Nat.zero_add]
 refine zg <| zs rfl <| zn <| hc_seq <| hc_region <| hl_call (σ := Nat) Tryz.call15 rfl rfl (fun w1 => zu fun D' _ _ _ => (New_ok D' w1 44 Z63 Z63).mono fun e w' ⟨g, he, H'⟩ => ⟨g, he, show Own D' w1 w' [dsk g S0 []] by rw [hS0]; exact H'⟩) ?_
 intro g
 try rw [List.nil_append]
 refine zm rfl <| zx rfl rfl <| zx rfl rfl <| zs rfl <| zs rfl <| hl_nil <| zt <| zg <| zm rfl <| hl_call (σ := Nat) Tryz.call17 rfl rfl (fun w1 => zpx (dsk g S0 []) fun D' _ _ H2 => (SOpen_new D' w1 g 44 2 Z63 Z63 Z63 Z63 S0 hS0 H2).mono fun e w' ⟨sb, he, H'⟩ => ⟨sb, he, show Own D' w1 w' [sto sb g 44 s1, dsk g s1.S []] by rw [hs1]; exact H'⟩) ?_
 intro sb
 refine zm rfl <| zx rfl rfl <| zx rfl rfl <| zs rfl <| zs rfl <| hl_nil <| zt <| hc_seq <| zg <| zm rfl <| zv (ov_neq rfl rfl) <| zm rfl <| hl_partF (t := 18) rfl ((fun h => h rfl)) <| hl_on rfl rfl <| zm rfl <| hl_on rfl rfl <| zv (ov_neq rfl rfl) <| zv (ov_pickF rfl rfl) <| zm rfl <| hl_partF (t := 22) rfl ((fun h => h rfl)) <| hl_on rfl rfl <| zm rfl <| hl_on rfl rfl <| zv (ov_eqlP rfl rfl) <| zv (ov_pickF rfl rfl) <| zm rfl <| hl_on rfl rfl <| zm rfl <| hl_on rfl rfl <| hl_c Tryz.call32 rfl rfl (fun w1 => zp (sto sb g 44 s1) fun D' _ _ H2 => SEpoch_spec D' w1 sb g 44 s1 H2) ?_
 refine hl_on rfl rfl <| zv (ov_neq rfl rfl) <| zv (ov_pickF rfl rfl) <| zm rfl <| hl_partF (t := 31) rfl (Z64) ?_
 refine hl_on rfl rfl <| zm rfl <| hl_on rfl rfl <| zv (ov_buildSN rfl rfl) <| ?_
 refine hl_on rfl rfl <| hl_new (on_buildSliceN rfl rfl rfl) rfl rfl rfl fun b34 =>  ?_
 refine hl_on rfl rfl <| hl_c Tryz.call19 rfl rfl (fun w1 H1 => Own.callp2 (sto sb g 44 s1) (dsk g s1.S []) H1 fun D' _ hin H2 => (Commit_spec D' w1 sb g 44 s1 _ lA k1 Z63 Z64 Z63 (hin _ fun h hs ho => rep_lits (b := b34) hs lA (repL_F.2 ⟨rfl, lA_ok⟩) Z63) H2).mono fun e w' ⟨he, H'⟩ => ⟨(by rw [f1] at he; exact he : e = .returned (.int .i64 0)), show Own D' w1 w' [sto sb g 44 s2, dsk g s2.S []] by rw [f1] at H'; exact H'⟩) ?_
 refine hl_on rfl rfl <| zv (ov_neq rfl rfl) <| zv (ov_pickF rfl rfl) <| zm rfl <| hl_partF (t := 38) rfl ((fun h => h rfl)) <| hl_on rfl rfl <| zm rfl <| hl_on rfl rfl <| zv (ov_buildSN rfl rfl) <| ?_
 refine hl_on rfl rfl <| hl_new (on_buildSliceN rfl rfl rfl) rfl rfl rfl fun b41 =>  ?_
 refine hl_on rfl rfl <| hl_c Tryz.call19 rfl rfl (fun w1 H1 => Own.callp2 (sto sb g 44 s2) (dsk g s2.S []) H1 fun D' _ hin H2 => (Commit_spec D' w1 sb g 44 s2 _ lB f2 Z63 Z64 Z63 (hin _ fun h hs ho => rep_lits (b := b41) hs lB (repL_F.2 ⟨rfl, lB_ok⟩) Z63) H2).mono fun e w' ⟨he, H'⟩ => ⟨(by rw [f6] at he; exact he : e = .returned (.int .i64 14)), show Own D' w1 w' [sto sb g 44 s2, dsk g s2.S []] by rw [f6] at H'; exact H'⟩) ?_
 refine hl_on rfl rfl <| zv (ov_neq rfl rfl) <| zv (ov_pickF rfl rfl) <| zn <| hc_cond_F rfl ((fun h => h rfl)) <| zk <| zg <| zm rfl <| hl_c Tryz.call25 rfl rfl (fun w1 => zp (dsk g s2.S []) fun D' _ _ H2 => Crash_none D' w1 g s2.S H2) ?_
 refine zn <| zg <| zm rfl <| hl_call (σ := Nat) Tryz.call17 rfl rfl (fun w1 => zpx (dsk g s2.S []) fun D' _ _ H2 => SOpen_old D' w1 g 44 s2 2 f2 Z63 Z64 Z63 Z63 hpl H2) ?_
 intro tb
 refine zm rfl <| zx rfl rfl <| zx rfl rfl <| zs rfl <| zs rfl <| hl_nil <| zt <| zg <| zm rfl <| zv (ov_eql rfl rfl) <| zm rfl <| hl_partT (t := 54) rfl (rfl) <| hl_on rfl rfl <| zm rfl <| hl_on rfl rfl <| zv (ov_neqP rfl rfl) <| zv (ov_pickT rfl rfl) <| zm rfl <| hl_on rfl rfl <| zm rfl <| hl_on rfl rfl <| hl_call (σ := Three) Tryz.call26 rfl rfl (fun w1 => zpx (sto tb g 44 s2) fun D' _ _ H2 => SConfig_spec D' w1 tb g 44 s2 f2.okc H2) ?_
 intro q1
 refine hl_on rfl rfl <| zv (ov_field rfl rfl) <| hl_on rfl rfl <| zv (ov_eql rfl rfl) <| zv (ov_pickT rfl rfl) <| zm rfl <| hl_partT (t := 64) rfl ((by rw [f3]; rfl)) ?_
 refine hl_on rfl rfl <| zm rfl <| hl_on rfl rfl <| hl_call (σ := Three) Tryz.call26 rfl rfl (fun w1 => zpx (sto tb g 44 s2) fun D' _ _ H2 => SConfig_spec D' w1 tb g 44 s2 f2.okc H2) ?_
 intro q2
 refine hl_on rfl rfl <| zv (ov_field rfl rfl) <| hl_on rfl rfl <| zv Z25 <| ?_
 refine hl_on rfl rfl <| zv (ov_eql rfl rfl) <| zv (ov_pickT rfl rfl) <| zm rfl <| hl_partT (t := 71) rfl (Z64) ?_
 refine hl_on rfl rfl <| zm rfl <| hl_on rfl rfl <| hl_c Tryz.call32 rfl rfl (fun w1 => zp (sto tb g 44 s2) fun D' _ _ H2 => SEpoch_spec D' w1 tb g 44 s2 H2) ?_
 refine hl_on rfl rfl <| zv (ov_eql rfl rfl) <| zv (ov_pickT rfl rfl) <| zm rfl <| hl_partT (t := 76) rfl (Z64) ?_
 refine hl_on rfl rfl <| zm rfl <| hl_on rfl rfl <| hl_c Tryz.call31 rfl rfl (fun w1 H1 => Own.callp2 (sto tb g 44 s2) (dsk g s2.S []) H1 fun D' _ _ H2 => (SSave_spec D' w1 tb g 44 s2 f2 Z64 H2).mono fun e w' ⟨he, H'⟩ => ⟨he, show Own D' w1 w' [sto tb g 44 s3, dsk g s3.S []] by rw [hs3]; exact H'⟩) ?_
 refine hl_on rfl rfl <| zv (ov_eql rfl rfl) <| zv (ov_pickT rfl rfl) <| zm rfl <| hl_partT (t := 81) rfl (rfl) <| hl_on rfl rfl <| zm rfl <| hl_on rfl rfl <| hl_c Tryz.call32 rfl rfl (fun w1 => zp (sto tb g 44 s3) fun D' _ _ H2 => SEpoch_spec D' w1 tb g 44 s3 H2) ?_
 refine hl_on rfl rfl <| zv (ov_eql rfl rfl) <| zv (ov_pickT rfl rfl) <| zs rfl <| zn <| zq <| ?_
 exact zz rfl rfl fun w' H' => ⟨by rw [e3]; rfl, H'.ent (Ent.nil _)⟩
abbrev SStep := Int × Int × List EditC
theorem sstep_open {D : Nat → Prop} {w0 : World} {x : SStep} {cs : List Value} (k : Old D w0 (Rep.rep x cs)) : ∃ A cap, cs = [.int .i64 x.1, .int .i64 x.2.1, .slice A x.2.2.length cap] ∧ inI64 x.1 ∧ inI64 x.2.1 ∧ Old D w0 (Rep.rep x.2.2 [.slice A x.2.2.length cap]) := by
 obtain ⟨h, hh, c1, c2, rfl, ⟨rfl, ia⟩, c3, c4, rfl, ⟨rfl, ib⟩, A, cap, rfl, hr2⟩ := k
 exact ⟨A, cap, rfl, ia, ib, h, hh, A, cap, rfl, hr2⟩
def fairS (l : List SStep) : Prop := l.length ≤ 60 ∧ ∀ x ∈ l, x.2.2.length ≤ 40
theorem fair8_spec (v : Value) (l : List SStep) (HA : Old D w (Rep.rep l [v])) :
  Calls Tryz.prog 28 #[v] w fun e w' => ∃ b : { b : Bool // b = true → fairS l }, e = .returned (.bool b.1) ∧ Own D w w' [] := by
 obtain ⟨A, cap, rfl, hc1, hc2, hel⟩ := HA.openX Z63
 refine hc_enter (vs := [.slice A l.length cap]) Tryz.func28 rfl _ Tryz.ntmps28 rfl (Own.start D w) ?_
 simp only [argSlots, Nat.zero_add]
 refine zg <| zs rfl <| zn <| hc_seq <| zg <| zs rfl <| zn <| hc_block <| hc_loops1 (σ := Nat) [0] rfl 3 (fun i => .int .i64 i) (fun i => i ≤ l.length ∧ ∀ x ∈ l.take i, x.2.2.length ≤ 40) (fun i => l.length - i) (0) (⟨Nat.zero_le _, by simp⟩) rfl ?_
 rintro i ⟨hi, hok⟩ K1 hK1
 refine hc_seq <| zg <| zm rfl <| zm rfl <| zv Z25 <| ?_
 refine zv (ov_lss rfl rfl) <| zn <| hc_cond rfl (fun hlt => ?_) (fun hlt => ?_)
 ·have hlt : i < l.length := by omega
  obtain ⟨hA, cs, hx, hcs⟩ := hel i hlt
  obtain ⟨B, capB, rfl, _, _, hu⟩ := sstep_open hx
  have hcl := hcs 2 _ rfl
  rw [show Rep.sz SStep = 3 from rfl] at hcl
  have hsn := List.take_succ_eq_append_getElem hlt
  refine zk <| hc_seq <| hc_block <| zg <| zm rfl <| zm rfl <| hl_v (ov_idxS rfl hA rfl i rfl hlt) rfl <| zf rfl <| zv Z9 <| ?_
  refine zv Z25 <| ?_
  refine zv (ov_gtr rfl rfl) <| zn <| hc_cond rfl (fun hbig => ?_) (fun hbig => ?_)
  ·refine zg <| zs rfl <| zn <| zq <| hx_block_ret <| zr <| zr <| hx_block_ret <| zr <| ?_
   exact zz rfl rfl fun w' H' => ⟨⟨false, fun h => by cases h⟩, rfl, H'⟩
  have hok' : ∀ x ∈ l.take (i + 1), x.2.2.length ≤ 40 := fun x hx => by
   rw [hsn] at hx
   rcases List.mem_append.1 hx with hx | hx
   ·exact hok x hx
   ·obtain rfl := List.mem_singleton.1 hx; omega
  refine hc_skip <| zb <| zt <| hc_region <| zm rfl <| zv (ov_add rfl rfl Z28) <| ?_
  refine zs rfl <| hl_nil <| hx_next hK1 (i + 1) (⟨by omega, hok'⟩) Z64 Z16 Z10
 have hil : i = l.length := by omega
 subst hil
 rw [List.take_length] at hok
 refine hc_exit <| ze <| ze <| hx_block_out <| zt <| hc_seq <| hc_region <| zm rfl <| zv Z25 <| ?_
 refine zv (ov_leq rfl rfl) <| zs rfl <| zn <| zq <| ?_
 exact zz rfl rfl fun w' H' => ⟨⟨_, fun hb => ⟨by have := of_decide_eq_true hb; omega, hok⟩⟩, rfl, H'⟩
end Go.Proofs.YtjlolpmmpafjeaaGreat
