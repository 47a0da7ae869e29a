import Derived.Test.YtjlolpmmpafjeaaGreatT15
set_option linter.unusedVariables false
set_option linter.unusedSimpArgs false
namespace Go.Proofs.YtjlolpmmpafjeaaGreat
open Slk
theorem ClnE_spec (D : Nat → Prop) (w : World) (v : Value) (l : List EditC) (hl : l.length ≤ 100000) (HA : Old D w (Rep.rep l [v])) :
  Calls Tryz.prog 72 #[v] w fun e w' => ∃ q : Option Addr × Nat, e = .returned (.slice q.1 l.length q.2) ∧ Own D w w' [row q.1 81 7 l.length q.2 (l.flatMap editV)] := by
 obtain ⟨A, cap, rfl, hc1, hc2, HS, hok⟩ := HA.openF
 have HS : OldS D w A (l.flatMap editV) := HS
 refine hc_enter (vs := [.slice A l.length cap]) Tryz.func72 rfl _ Tryz.ntmps72 rfl (Own.start D w) ?_
 simp only [argSlots, Nat.zero_add]
 refine zg <| zs rfl <| zn <| hc_seq <| zg <| zm rfl <| zv (ov_eqlN rfl rfl) <| zn <| ?_
 refine hc_cond_bool rfl (fun h => ?_) (fun h => ?_)
 ·have hnil : l = [] := by
   cases l with
   | nil => rfl
   | cons x r =>
    have h1 := HS.isA (by intro h; have := congrArg List.length h; rw [List.flatMap_cons, List.length_append] at this; simp [editV] at this)
    have : A = none := by simpa using h
    rw [this] at h1; cases h1
  subst hnil
  refine zg <| zs rfl <| zn <| zq <| zr <| ?_
  exact zz rfl rfl fun w' H' => ⟨(none, 0), rfl, H'.ent (Ent.nil_row _ _)⟩
 refine zk <| zg <| hl_new (on_buildSliceN rfl rfl rfl) rfl rfl rfl fun b5 =>
  zm rfl <| ?_
 refine HL.ent (Ent.blk_row (b := b5) 7 0 rfl Z63) ?_
 refine hl_new (on_appendR (A := some ⟨b5, 0, none⟩) (news := l.flatMap editV) rfl rfl (SrcIs.old HS) (flat_len (f := editV) (sz := 7) (fun _ => rfl) l) (flat_one editV_one l) Z63 Z64) rfl rfl rfl (fun q1 => ?_)
 rw [List.nil_append, Nat.zero_add]
 refine zs rfl <| zn <| zq <| ?_
 exact zz rfl rfl fun w' H' => ⟨q1, rfl, H'.ent Z8⟩
def sesL (b : Nat) (l : List EditC) (q : Option Addr × Nat) : List HProp := [blk b 157 [.slice q.1 l.length q.2], row q.1 81 7 l.length q.2 (l.flatMap editV)]
def ses (b : Nat) (l : List EditC) : HProp := exS (sesL b l)
theorem ses_mk {b : Nat} {l : List EditC} {r : List HProp} (q : Option Addr × Nat) : Ent (blk b 157 [.slice q.1 l.length q.2] :: row q.1 81 7 l.length q.2 (l.flatMap editV) :: r) (ses b l :: r) := Ent.exS (L := sesL b l) (l := r) q
theorem CNew_spec (D : Nat → Prop) (w : World) : Calls Tryz.prog 37 #[] w fun e w' => ∃ b : Nat, e = .returned (.pointer (some ⟨b, 0, none⟩)) ∧ Own D w w' [ses b []] := by
 refine hc_enter (vs := []) Tryz.func37 rfl _ Tryz.ntmps37 rfl (Own.start D w) ?_
 simp only [argSlots, Nat.zero_add]
 refine zg <| zs rfl <| zn <| hc_seq <| hc_region <| zv (ov_buildSN rfl rfl) <| ?_
 refine hl_new (on_boxN rfl rfl) rfl rfl rfl fun b2 =>  ?_
 refine zs rfl <| zn <| zq <| ?_
 exact zz rfl rfl fun w' H' => ⟨b2, rfl, H'.ent (Ent.trans (b := [blk b2 157 [.slice none 0 0], row none 81 7 0 0 []]) (Ent.trans (Ent.nil_row 81 7) Z8) (ses_mk (l := []) (r := []) (none, 0)))⟩
theorem CCommit_none (D : Nat → Prop) (w : World) (b : Nat) (l : List EditC) (H : Own D w w [ses b l]) : Calls Tryz.prog 39 #[.pointer (some ⟨b, 0, none⟩), .pointer none] w fun e w' => e = .returned (.tuple #[.int .i64 0, .int .i64 1]) ∧ Own D w w' [ses b l] := by
 refine hc_enter (vs := [.pointer (some ⟨b, 0, none⟩), .pointer none]) Tryz.func39 rfl _ Tryz.ntmps39 rfl H ?_
 simp only [argSlots, Nat.zero_add]
 refine zg <| zs rfl <| zs rfl <| zn <| hc_seq <| zg <| zm rfl <| zv (ov_eqlP rfl rfl) <| zm rfl <| hl_on rfl rfl <| zm rfl <| hl_on rfl rfl <| zv (ov_eqlP rfl rfl) <| zv (ov_pickF rfl rfl) <| zn <| hc_cond_true rfl <| zg <| zs rfl <| zs rfl <| zn <| zq <| zr <| ?_
 exact results_2 (.inr rfl) rfl rfl rfl fun w' H' => ⟨rfl, H'⟩
theorem CAdd_spec (D : Nat → Prop) (w : World) (b : Nat) (l x : List EditC) (v : Value) (hl : l.length ≤ 32) (hx : x.length ≤ 100000) (HA : Old D w (Rep.rep x [v])) (H : Own D w w [ses b l]) :
  Calls Tryz.prog 38 #[.pointer (some ⟨b, 0, none⟩), v] w fun e w' => e = .returned (.int .i64 (if l.length + x.length ≤ 32 then 0 else 3)) ∧ Own D w w' [ses b (if l.length + x.length ≤ 32 then l ++ x else l)] := by
 obtain ⟨Ax, cx, rfl, hc1, hc2, HS, hok⟩ := HA.openF
 have HS : OldS D w Ax (x.flatMap editV) := HS
 refine hc_enter (vs := [.pointer (some ⟨b, 0, none⟩), .slice Ax x.length cx]) Tryz.func38 rfl _ Tryz.ntmps38 rfl H ?_
 simp only [argSlots, Nat.zero_add]
 refine HC.exs ?_
 rintro ⟨A, c⟩
 refine HC.ent (l' := [blk b 157 [.slice A l.length c], row A 81 7 l.length c (l.flatMap editV)]) (fun _ h => h) ?_
 refine zg <| zs rfl <| zn <| hc_seq <| hc_block <| zg <| zm rfl <| zv (ov_eqlP rfl rfl) <| zs rfl <| zn <| hc_cond_false rfl <| zg <| zm rfl <| zv Z25 <| ?_
 refine zm rfl <| zv (ov_nil rfl) <| zf rfl <| zl rfl rfl <| zv Z25 <| ?_
 refine zv (ov_sub rfl rfl Z28) <| ?_
 refine zv (ov_gtr rfl rfl) <| zs rfl <| zn <| hc_cond rfl (fun h => ?_) (fun h => ?_)
 ·have hn : ¬ l.length + x.length ≤ 32 := by omega
  rw [if_neg hn, if_neg hn]
  refine zg <| zs rfl <| zn <| zq <| hx_block_ret <| zr <| ?_
  exact zz rfl rfl fun w' H' => ⟨rfl, H'.ent (ses_mk (r := []) (A, c))⟩
 have hn : l.length + x.length ≤ 32 := by omega
 rw [if_pos hn, if_pos hn]
 have hf : (l ++ x).flatMap editV = l.flatMap editV ++ x.flatMap editV := List.flatMap_append
 refine hc_skip <| zb <| zt <| zg <| zm rfl <| zm rfl <| zv (ov_nil rfl) <| zf rfl <| zl rfl rfl <| zm rfl <| ?_
 refine hl_new (on_appendR (A := A) (news := x.flatMap editV) rfl rfl (SrcIs.old HS) (flat_len (f := editV) (sz := 7) (fun _ => rfl) x) (flat_one editV_one x) Z63 Z64) rfl rfl rfl (fun q1 => ?_)
 rw [← hf, show l.length + x.length = (l ++ x).length from (List.length_append).symm]
 refine zv (ov_nil rfl) <| zf rfl <| hl_u0 (on_storeN rfl rfl rfl rfl rfl) rfl rfl <| zn <| hc_seq <| ?_
 refine hc_region <| zs rfl <| zn <| zq <| ?_
 exact zz rfl rfl fun w' H' => ⟨rfl, H'.ent (Ent.trans (b := [blk b 157 [.slice q1.1 (l ++ x).length q1.2], row q1.1 81 7 (l ++ x).length q1.2 ((l ++ x).flatMap editV)]) Z8 (ses_mk (r := []) q1))⟩
theorem CAll_spec (D : Nat → Prop) (w : World) (b : Nat) (l : List EditC) (hl : l.length ≤ 32) (hf : ∀ x ∈ l, Flat.ok x) (H : Own D w w [ses b l]) :
  Calls Tryz.prog 40 #[.pointer (some ⟨b, 0, none⟩)] w fun e w' => ∃ q : Option Addr × Nat, e = .returned (.slice q.1 l.length q.2) ∧ Own D w w' [ses b l, row q.1 81 7 l.length q.2 (l.flatMap editV)] := by
 refine hc_enter (vs := [.pointer (some ⟨b, 0, none⟩)]) Tryz.func40 rfl _ Tryz.ntmps40 rfl H ?_
 simp only [argSlots, Nat.zero_add]
 refine HC.exs ?_
 rintro ⟨A, c⟩
 refine HC.ent (l' := [blk b 157 [.slice A l.length c], row A 81 7 l.length c (l.flatMap editV)]) (fun _ h => h) ?_
 refine zg <| zs rfl <| zn <| hc_seq <| zg <| zm rfl <| zv (ov_eqlP rfl rfl) <| zn <| hc_cond_false rfl <| zk <| zg <| zm rfl <| zv (ov_nil rfl) <| zf rfl <| zl rfl rfl <| ?_
 refine hl_call (σ := Option Addr × Nat) Tryz.call72 rfl rfl (fun w1 => zu fun D' _ hin _ => ClnE_spec D' w1 _ l Z64 (hin _ fun h hs ho => rep_row (A := A) hs l rfl (repL_F.2 ⟨rfl, hf⟩))) ?_
 intro q
 try rw [List.nil_append]
 refine zs rfl <| zn <| zq <| ?_
 exact zz rfl rfl fun w' H' => ⟨q, rfl, H'.ent (Ent.trans (b := [blk b 157 [.slice A l.length c], row A 81 7 l.length c (l.flatMap editV), row q.1 81 7 l.length q.2 (l.flatMap editV)]) Z8 (ses_mk (A, c)))⟩
theorem CDrop_spec (D : Nat → Prop) (w : World) (b : Nat) (l : List EditC) (H : Own D w w [ses b l]) :
  Calls Tryz.prog 42 #[.pointer (some ⟨b, 0, none⟩)] w fun e w' => e = .returned (.int .i64 (l.length : Int)) ∧ Own D w w' [ses b []] := by
 refine hc_enter (vs := [.pointer (some ⟨b, 0, none⟩)]) Tryz.func42 rfl _ Tryz.ntmps42 rfl H ?_
 simp only [argSlots, Nat.zero_add]
 refine HC.exs ?_
 rintro ⟨A, c⟩
 refine HC.ent (l' := [blk b 157 [.slice A l.length c], row A 81 7 l.length c (l.flatMap editV)]) (fun _ h => h) ?_
 refine zg <| zs rfl <| zn <| hc_seq <| zg <| zm rfl <| zv (ov_eqlP rfl rfl) <| zn <| hc_cond_false rfl <| zk <| zg <| zm rfl <| zv (ov_nil rfl) <| zf rfl <| zl rfl rfl <| zv Z25 <| ?_
 refine zs rfl <| zn <| zg <| zm rfl <| zv (ov_nil rfl) <| zf rfl <| hl_u0 (on_storeN rfl rfl rfl rfl rfl) rfl rfl <| zn <| hc_seq <| ?_
 refine hc_region <| zm rfl <| zs rfl <| zn <| zq <| ?_
 exact zz rfl rfl fun w' H' => ⟨rfl, H'.ent (Ent.trans (b := [blk b 157 [.slice none 0 0], row none 81 7 0 0 []]) (Ent.trans (Ent.nil_row 81 7) Z8) (ses_mk (l := []) (r := []) (none, 0)))⟩
def ccomR (m : Nat) (s : SSt) (l : List EditC) : Int × Int × SSt :=
 if l.length = 0 then (0, 0, s) else if (commR m s l).1 ≠ 0 then (0, commR m s l) else ((l.length : Int), commR m s l)
theorem CCommit_spec (D : Nat → Prop) (w : World) (b sb g m : Nat) (s : SSt) (l : List EditC) (h : SI m s) (hm2 : m ≤ 100000) (hep : s.ep < 4294967290) (hl : l.length ≤ 32) (hf : ∀ x ∈ l, Flat.ok x) (H : Own D w w [ses b l, sto sb g m s, dsk g s.S []]) :
  Calls Tryz.prog 39 #[.pointer (some ⟨b, 0, none⟩), .pointer (some ⟨sb, 0, none⟩)] w fun e w' => e = .returned (.tuple #[.int .i64 (ccomR m s l).1, .int .i64 (ccomR m s l).2.1]) ∧ Own D w w' [ses b [], sto sb g m (ccomR m s l).2.2, dsk g (ccomR m s l).2.2.S []] := by
 obtain ⟨er, s', hc⟩ : ∃ er s', commR m s l = (er, s') := ⟨_, _, rfl⟩
 refine hc_enter (vs := [.pointer (some ⟨b, 0, none⟩), .pointer (some ⟨sb, 0, none⟩)]) Tryz.func39 rfl _ Tryz.ntmps39 rfl H ?_
 simp only [argSlots, Nat.zero_add]
 refine zg <| zs rfl <| zs rfl <| zn <| hc_seq <| zg <| zm rfl <| zv (ov_eqlP rfl rfl) <| zm rfl <| hl_on rfl rfl <| zm rfl <| hl_on rfl rfl <| zv (ov_eqlP rfl rfl) <| zv (ov_pickF rfl rfl) <| zn <| hc_cond_false rfl <| zk <| zg <| zm rfl <| hl_call (σ := Option Addr × Nat) Tryz.call40 rfl rfl (fun w1 => zpx (ses b l) fun D' _ _ H2 => CAll_spec D' w1 b l hl hf H2) ?_
 intro q
 refine zs rfl <| zn <| zg <| zm rfl <| hl_c Tryz.call42 rfl rfl (fun w1 => zp (ses b l) fun D' _ _ H2 => CDrop_spec D' w1 b l H2) ?_
 refine zs rfl <| zn <| hc_seq <| zg <| zm rfl <| zv (ov_eql rfl rfl) <| zn <| hc_cond rfl (fun h0 => ?_) (fun h0 => ?_)
 ·have h0 : l.length = 0 := by omega
  have hcc : ccomR m s l = (0, 0, s) := by unfold ccomR; rw [if_pos h0]
  rw [hcc]
  refine zg <| zs rfl <| zs rfl <| zn <| zq <| zr <| ?_
  exact results_2 (.inr rfl) rfl rfl rfl fun w' H' => ⟨rfl, H'.ent Z8⟩
 have h0 : ¬ l.length = 0 := by omega
 refine zk <| hc_seq <| zg <| zm rfl <| zm rfl <| hl_c Tryz.call19 rfl rfl (fun w1 H1 => Own.callp2 (sto sb g m s) (dsk g s.S []) H1 fun D' _ hin H2 => (Commit_spec D' w1 sb g m s _ l h hm2 hep Z64 (hin _ fun h hs ho => rep_row (A := q.1) hs l rfl (repL_F.2 ⟨rfl, hf⟩)) H2).mono fun e w' ⟨he, H'⟩ => ⟨(by rw [hc] at he; exact he : e = .returned (.int .i64 er)), show Own D' w1 w' [sto sb g m s', dsk g s'.S []] by rw [hc] at H'; exact H'⟩) ?_
 refine zs rfl <| zn <| zg <| zm rfl <| zv (ov_neq rfl rfl) <| zn <| hc_cond rfl (fun he => ?_) (fun he => ?_)
 ·have hcc : ccomR m s l = (0, er, s') := by unfold ccomR; rw [if_neg h0, hc, if_pos he]
  rw [hcc]
  refine zg <| zm rfl <| zs rfl <| zs rfl <| hl_nil <| zt <| zq <| zr <| ?_
  exact results_2 (.inr rfl) rfl rfl rfl fun w' H' => ⟨rfl, H'.ent Z8⟩
 have he : er = 0 := Classical.not_not.1 he
 have hcc : ccomR m s l = ((l.length : Int), er, s') := by unfold ccomR; rw [if_neg h0, hc, if_neg (fun k => k he)]
 rw [hcc]
 subst he
 refine zk <| zg <| zm rfl <| zs rfl <| zs rfl <| zn <| zq <| ?_
 exact results_2 (.inr rfl) rfl rfl rfl fun w' H' => ⟨rfl, H'.ent Z8⟩
def lC : List EditC := [(1, 0, 4096, 0, 0, 0, 0), (2, 0, 10, 0, 0, 0, 0)]
def dC : ConfC := (4096, 10, 15, [(true, 20000, 1), (true, 20000, 1)], [(1, 3, 0)], [])
theorem lC_fold : foldC (firstC 2) lC = (dC, 0) := by decide +kernel
theorem dC_good : goodP dC := by decide +kernel
theorem lC_eds : okEds lC := by decide +kernel
theorem lC_ok : ∀ x ∈ lC, Flat.ok x := fun x hx => by
 have : x = (1, 0, 4096, 0, 0, 0, 0) ∨ x = (2, 0, 10, 0, 0, 0, 0) := by simpa [lC] using hx
 rcases this with rfl | rfl <;> exact editOk1 _ ⟨by decide, by decide⟩ ⟨by decide, by decide⟩ (inI _ ⟨by decide, by decide⟩) ⟨by decide, by decide⟩
theorem firstC2' : goodP (firstC 2) := firstC_good 2 Z63 Z63
theorem lC_ed : edF (firstC 2) lC = (dC, 0) := (edF_R _ _).ok firstC2' Z63 lC_fold dC_good
theorem wake23_facts : ∃ s2, ccomR 44 (firstSt 44 2) lC = (2, 0, s2) ∧ SI 44 s2 ∧ s2.c = dC := by
 have h1 := firstSt_ok (m := 44) (p := 2) Z63 Z63 Z63
 have hn : needM (edsB lC).length ≤ 44 - 32 := by
  rw [edsB_len]
  show needM (1 + 16 * 2) ≤ 12
  decide
 have hc : commR 44 (firstSt 44 2) lC = (0, appSt (firstSt 44 2) lC) := by
  unfold commR
  have he : edF (firstSt 44 2).c lC = (dC, 0) := lC_ed
  rw [he, if_neg (fun h => h rfl), if_neg (fun h => h lC_eds)]
  exact if_pos (show _ ≤ 44 - 32 - 0 from hn)
 have h2 := commR_ok h1 lC_ok (show 1 < 4294967290 by decide)
 rw [hc] at h2
 have hc2 : (appSt (firstSt 44 2) lC).c = dC := by show (edF (firstC 2) lC).1 = _; rw [lC_ed]
 refine ⟨_, ?_, h2.1, hc2⟩
 unfold ccomR
 rw [if_neg (show ¬ lC.length = 0 by decide), hc, if_neg (fun h => h rfl)]
 rfl
set_option maxHeartbeats 1000000 in
theorem wakes23_spec (D : Nat → Prop) (w : World) : Calls Tryz.prog 36 #[] w fun e w' => e = .returned (.bool true) ∧ Own D w w' [] := by
 obtain ⟨s1, hs1⟩ : ∃ s, s = firstSt 44 2 := ⟨_, rfl⟩
 obtain ⟨s2, f1, f2, f3⟩ := wake23_facts
 rw [← hs1] at f1
 have k1 : SI 44 s1 := by rw [hs1]; exact firstSt_ok Z63 Z63 Z63
 have e1 : s1.ep = 1 := by rw [hs1]; rfl
 obtain ⟨S0, hS0⟩ : ∃ S, S = List.replicate 44 zeroSec := ⟨_, rfl⟩
 refine hc_enter (vs := []) Tryz.func36 rfl _ Tryz.ntmps36 rfl (Own.start D w) ?_
 simp only [argSlots, Nat.zero_add]
 refine zg <| zs rfl <| zn <| hc_seq <| hc_region <| hl_call (σ := Nat) Tryz.call15 rfl rfl (fun w1 => zu fun D' _ _ _ => (New_ok D' w1 44 Z63 Z63).mono fun e w' ⟨g, he, H'⟩ => ⟨g, he, show Own D' w1 w' [dsk g S0 []] by rw [hS0]; exact H'⟩) ?_
 intro g
 try rw [List.nil_append]
 refine zm rfl <| zx rfl rfl <| zx rfl rfl <| zs rfl <| zs rfl <| hl_nil <| zt <| zg <| zm rfl <| hl_call (σ := Nat) Tryz.call17 rfl rfl (fun w1 => zpx (dsk g S0 []) fun D' _ _ H2 => (SOpen_new D' w1 g 44 2 Z63 Z63 Z63 Z63 S0 hS0 H2).mono fun e w' ⟨sb, he, H'⟩ => ⟨sb, he, show Own D' w1 w' [sto sb g 44 s1, dsk g s1.S []] by rw [hs1]; exact H'⟩) ?_
 intro sb
 refine zm rfl <| zx rfl rfl <| zx rfl rfl <| zs rfl <| zs rfl <| hl_nil <| zt <| zg <| hl_call (σ := Nat) Tryz.call37 rfl rfl (fun w1 => zu fun D' _ _ _ => CNew_spec D' w1) ?_
 intro b
 try rw [List.nil_append]
 refine zs rfl <| zn <| hc_seq <| zg <| zm rfl <| zv (ov_neq rfl rfl) <| zm rfl <| hl_partF (t := 20) rfl ((fun h => h rfl)) <| hl_on rfl rfl <| zm rfl <| hl_on rfl rfl <| zv (ov_neq rfl rfl) <| zv (ov_pickF rfl rfl) <| zm rfl <| hl_partF (t := 24) rfl ((fun h => h rfl)) <| hl_on rfl rfl <| zm rfl <| hl_on rfl rfl <| zv (ov_eqlP rfl rfl) <| zv (ov_pickF rfl rfl) <| zm rfl <| hl_on rfl rfl <| zm rfl <| hl_on rfl rfl <| zv (ov_buildSN rfl rfl) <| ?_
 refine hl_on rfl rfl <| zv (ov_buildSN rfl rfl) <| ?_
 refine hl_on rfl rfl <| hl_new (on_buildSliceN rfl rfl rfl) rfl rfl rfl fun b32 =>  ?_
 refine hl_on rfl rfl <| hl_c Tryz.call38 rfl rfl (fun w1 => zp (ses b []) fun D' _ hin H2 => (CAdd_spec D' w1 b [] lC _ Z63 Z63 (hin _ fun h hs ho => rep_lits (b := b32) hs lC (repL_F.2 ⟨rfl, lC_ok⟩) Z63) H2).mono fun e w' ⟨he, H'⟩ => ⟨(show e = .returned (.int .i64 0) from he), show Own D' w1 w' [ses b lC] from H'⟩) ?_
 refine hl_on rfl rfl <| zv (ov_neq rfl rfl) <| zv (ov_pickF rfl rfl) <| zm rfl <| hl_partF (t := 36) rfl ((fun h => h rfl)) <| hl_on rfl rfl <| zm rfl <| hl_on rfl rfl <| hl_call (σ := Option Addr × Nat) Tryz.call40 rfl rfl (fun w1 => zpx (ses b lC) fun D' _ _ H2 => CAll_spec D' w1 b lC Z63 lC_ok H2) ?_
 intro q1
 refine hl_on rfl rfl <| zv Z25 <| ?_
 refine hl_on rfl rfl <| zv (ov_neq rfl rfl) <| zv (ov_pickF rfl rfl) <| zn <| hc_cond_F rfl ((fun h => h rfl)) <| zk <| zg <| zm rfl <| zm rfl <| hl_c Tryz.call39 rfl rfl (fun w1 H1 => Own.callp3 (ses b lC) (sto sb g 44 s1) (dsk g s1.S []) H1 fun D' _ _ H2 => (CCommit_spec D' w1 b sb g 44 s1 lC k1 Z63 Z64 Z63 lC_ok H2).mono fun e w' ⟨he, H'⟩ => ⟨(by rw [f1] at he; exact he : e = .returned (.tuple #[.int .i64 2, .int .i64 0])), show Own D' w1 w' [ses b [], sto sb g 44 s2, dsk g s2.S []] by rw [f1] at H'; exact H'⟩) ?_
 refine zm rfl <| zx rfl rfl <| zx rfl rfl <| zs rfl <| zs rfl <| hl_nil <| zt <| zg <| zm rfl <| zv (ov_eql rfl rfl) <| zm rfl <| hl_partT (t := 50) rfl (rfl) <| hl_on rfl rfl <| zm rfl <| hl_on rfl rfl <| zv (ov_eql rfl rfl) <| zv (ov_pickT rfl rfl) <| zm rfl <| hl_partT (t := 54) rfl (rfl) <| hl_on rfl rfl <| zm rfl <| hl_on rfl rfl <| hl_call (σ := Option Addr × Nat) Tryz.call40 rfl rfl (fun w1 => zpx (ses b []) fun D' _ _ H2 => CAll_spec D' w1 b [] Z63 (fun x hx => by cases hx) H2) ?_
 intro q2
 refine hl_on rfl rfl <| zv Z25 <| ?_
 refine hl_on rfl rfl <| zv (ov_eql rfl rfl) <| zv (ov_pickT rfl rfl) <| zm rfl <| hl_partT (t := 60) rfl (rfl) <| hl_on rfl rfl <| zm rfl <| hl_on rfl rfl <| hl_call (σ := Three) Tryz.call26 rfl rfl (fun w1 => zpx (sto sb g 44 s2) fun D' _ _ H2 => SConfig_spec D' w1 sb g 44 s2 f2.okc H2) ?_
 intro q3
 refine hl_on rfl rfl <| zv (ov_field rfl rfl) <| hl_on rfl rfl <| zv (ov_eql rfl rfl) <| zv (ov_pickT rfl rfl) <| zm rfl <| hl_partT (t := 66) rfl ((by rw [f3]; rfl)) ?_
 refine hl_on rfl rfl <| zm rfl <| hl_on rfl rfl <| hl_c Tryz.call42 rfl rfl (fun w1 => zp (ses b []) fun D' _ _ H2 => CDrop_spec D' w1 b [] H2) ?_
 refine hl_on rfl rfl <| zv (ov_eql rfl rfl) <| zv (ov_pickT rfl rfl) <| zs rfl <| zn <| zq <| ?_
 exact zz rfl rfl fun w' H' => ⟨rfl, H'.ent (Ent.nil _)⟩
abbrev CdStep := Int × List EditC
theorem cstep_open {D : Nat → Prop} {w0 : World} {x : CdStep} {cs : List Value} (k : Old D w0 (Rep.rep x cs)) : ∃ A cap, cs = [.int .i64 x.1, .slice A x.2.length cap] ∧ inI64 x.1 ∧ Old D w0 (Rep.rep x.2 [.slice A x.2.length cap]) := by
 obtain ⟨h, hh, c1, c2, rfl, ⟨rfl, ia⟩, A, cap, rfl, hr2⟩ := k
 exact ⟨A, cap, rfl, ia, h, hh, A, cap, rfl, hr2⟩
def fairC (l : List CdStep) : Prop := l.length ≤ 60 ∧ ∀ x ∈ l, x.2.length ≤ 50
theorem fair23_spec (D : Nat → Prop) (w : World) (v : Value) (l : List CdStep) (HA : Old D w (Rep.rep l [v])) :
  Calls Tryz.prog 41 #[v] w fun e w' => ∃ b : { b : Bool // b = true → fairC l }, e = .returned (.bool b.1) ∧ Own D w w' [] := by
 obtain ⟨A, cap, rfl, hc1, hc2, hel⟩ := HA.openX Z63
 refine hc_enter (vs := [.slice A l.length cap]) Tryz.func41 rfl _ Tryz.ntmps41 rfl (Own.start D w) ?_
 simp only [argSlots, Nat.zero_add]
 refine zg <| zs rfl <| zn <| hc_seq <| zg <| zs rfl <| zn <| hc_block <| hc_loops1 (σ := Nat) [0] rfl 3 (fun i => .int .i64 i) (fun i => i ≤ l.length ∧ ∀ x ∈ l.take i, x.2.length ≤ 50) (fun i => l.length - i) (0) (⟨Nat.zero_le _, by simp⟩) rfl ?_
 rintro i ⟨hi, hok⟩ K1 hK1
 refine hc_seq <| zg <| zm rfl <| zm rfl <| zv Z25 <| ?_
 refine zv (ov_lss rfl rfl) <| zn <| hc_cond rfl (fun hlt => ?_) (fun hlt => ?_)
 ·have hlt : i < l.length := by omega
  obtain ⟨hA, cs, hx, hcs⟩ := hel i hlt
  obtain ⟨B, capB, rfl, _, hu⟩ := cstep_open hx
  have hcl := hcs 1 _ rfl
  rw [show Rep.sz CdStep = 2 from rfl] at hcl
  have hsn := List.take_succ_eq_append_getElem hlt
  refine zk <| hc_seq <| hc_block <| zg <| zm rfl <| zm rfl <| hl_v (ov_idxS rfl hA rfl i rfl hlt) rfl <| zf rfl <| zv Z9 <| ?_
  refine zv Z25 <| ?_
  refine zv (ov_gtr rfl rfl) <| zn <| hc_cond rfl (fun hbig => ?_) (fun hbig => ?_)
  ·refine zg <| zs rfl <| zn <| zq <| hx_block_ret <| zr <| zr <| hx_block_ret <| zr <| ?_
   exact zz rfl rfl fun w' H' => ⟨⟨false, fun h => by cases h⟩, rfl, H'⟩
  have hok' : ∀ x ∈ l.take (i + 1), x.2.length ≤ 50 := fun x hx => by
   rw [hsn] at hx
   rcases List.mem_append.1 hx with hx | hx
   ·exact hok x hx
   ·obtain rfl := List.mem_singleton.1 hx; omega
  refine hc_skip <| zb <| zt <| hc_region <| zm rfl <| zv (ov_add rfl rfl Z28) <| ?_
  refine zs rfl <| hl_nil <| hx_next hK1 (i + 1) (⟨by omega, hok'⟩) Z64 Z16 Z10
 have hil : i = l.length := by omega
 subst hil
 rw [List.take_length] at hok
 refine hc_exit <| ze <| ze <| hx_block_out <| zt <| hc_seq <| hc_region <| zm rfl <| zv Z25 <| ?_
 refine zv (ov_leq rfl rfl) <| zs rfl <| zn <| zq <| ?_
 exact zz rfl rfl fun w' H' => ⟨⟨_, fun hb => ⟨by have := of_decide_eq_true hb; omega, hok⟩⟩, rfl, H'⟩
theorem keepC_spec (D : Nat → Prop) (w : World) (c d : ConfC) (vp vv vs wp wv ws : Value) (H1 : ConfOld D w c vp vv vs) (H2 : ConfOld D w d wp wv ws) :
  Calls Tryz.prog 27 #[.agg (cfgV c vp vv vs).toArray, .agg (cfgV d wp wv ws).toArray] w fun e w' => ∃ b : BIff (c = d), e = .returned (.bool b.1) ∧ Own D w w' [] := by
 obtain ⟨Ap, cp, hvp, _, _, Sp, op⟩ := H1.p.openF
 obtain ⟨Av, cv, hvv, _, _, Sv, ov⟩ := H1.v.openF
 obtain ⟨As, cs, hvs, _, _, Ss, os⟩ := H1.s.openF
 obtain ⟨Bp, dp, hwp, _, _, Tp, qp⟩ := H2.p.openF
 obtain ⟨Bv, dv, hwv, _, _, Tv, qv⟩ := H2.v.openF
 obtain ⟨Bs, ds, hws, _, _, Ts, qs⟩ := H2.s.openF
 have l1 := H1.lp; have l2 := H1.lv; have l3 := H1.ls
 have Sp : OldS D w Ap (c.2.2.2.1.flatMap portV) := Sp
 have Sv : OldS D w Av (c.2.2.2.2.1.flatMap vlanV) := Sv
 have Ss : OldS D w As (c.2.2.2.2.2.flatMap statV) := Ss
 have Tp : OldS D w Bp (d.2.2.2.1.flatMap portV) := Tp
 have Tv : OldS D w Bv (d.2.2.2.2.1.flatMap vlanV) := Tv
 have Ts : OldS D w Bs (d.2.2.2.2.2.flatMap statV) := Ts
 subst hvp; subst hvv; subst hvs; subst hwp; subst hwv; subst hws
 obtain ⟨c1, c2, c3, P, V, S⟩ := c
 obtain ⟨d1, d2, d3, P', V', S'⟩ := d
 dsimp only at *
 have hceq : ((c1, c2, c3, P, V, S) : ConfC) = (d1, d2, d3, P', V', S') ↔ c1 = d1 ∧ c2 = d2 ∧ c3 = d3 ∧ P = P' ∧ V = V' ∧ S = S' := by simp only [Prod.mk.injEq]
 refine hc_enter (vs := [.agg #[.int .i64 c1, .int .i64 c2, .int .i64 c3, .slice Ap P.length cp, .slice Av V.length cv, .slice As S.length cs], .agg #[.int .i64 d1, .int .i64 d2, .int .i64 d3, .slice Bp P'.length dp, .slice Bv V'.length dv, .slice Bs S'.length ds]]) Tryz.func27 rfl _ Tryz.ntmps27 rfl (Own.start D w) ?_
 simp only [argSlots, Nat.zero_add]
 refine zg <| hl_new (on_boxN rfl rfl) rfl rfl rfl fun b2 =>  ?_
 refine hl_new (on_boxN rfl rfl) rfl rfl rfl fun b3 =>  ?_
 refine zs rfl <| zn <| hc_seq <| zg <| zf rfl <| zl rfl rfl <| zf rfl <| zl rfl rfl <| zv (ov_neq rfl rfl) <| zm rfl <| ?_
 refine hl_part (t := 13) rfl (fun g0 => ?_) (fun g0 => ?_)
 ·have hno : ¬ ((c1, c2, c3, P, V, S) : ConfC) = (d1, d2, d3, P', V', S') := fun h => g0 ((hceq.1 h).1)
  refine zo rfl rfl <| zo rfl rfl <| zo rfl rfl <| zo rfl rfl <| zo rfl rfl <| zv (ov_pickT rfl rfl) <| zm rfl <| zo rfl rfl <| zo rfl rfl <| zo rfl rfl <| zo rfl rfl <| zo rfl rfl <| zv (ov_pickT rfl rfl) <| zm rfl <| zo rfl rfl <| zo rfl rfl <| zo rfl rfl <| zo rfl rfl <| zo rfl rfl <| zo rfl rfl <| zo rfl rfl <| zv (ov_pickT rfl rfl) <| zm rfl <| zo rfl rfl <| zo rfl rfl <| zo rfl rfl <| zo rfl rfl <| zo rfl rfl <| zo rfl rfl <| zo rfl rfl <| zv (ov_pickT rfl rfl) <| zm rfl <| zo rfl rfl <| zo rfl rfl <| zo rfl rfl <| zo rfl rfl <| ?_
  refine zo rfl rfl <| zo rfl rfl <| zo rfl rfl <| zv (ov_pickT rfl rfl) <| zn <| hc_cond_true rfl <| zg <| zs rfl <| zn <| zq <| zr <| ?_
  exact zz rfl rfl fun w' H' => ⟨bF hno, rfl, H'.ent (Ent.nil _)⟩
 skip
 have g0 := Classical.not_not.1 g0
 refine hl_on rfl rfl <| zf rfl <| hl_on rfl rfl <| zl rfl rfl <| hl_on rfl rfl <| zf rfl <| hl_on rfl rfl <| zl rfl rfl <| hl_on rfl rfl <| zv (ov_neq rfl rfl) <| zv (ov_pickF rfl rfl) <| ?_
 refine zm rfl <| hl_part (t := 20) rfl (fun g1 => ?_) (fun g1 => ?_)
 ·have hno : ¬ ((c1, c2, c3, P, V, S) : ConfC) = (d1, d2, d3, P', V', S') := fun h => g1 ((hceq.1 h).2.1)
  refine zo rfl rfl <| zo rfl rfl <| zo rfl rfl <| zo rfl rfl <| zo rfl rfl <| zv (ov_pickT rfl rfl) <| zm rfl <| zo rfl rfl <| zo rfl rfl <| zo rfl rfl <| zo rfl rfl <| zo rfl rfl <| zo rfl rfl <| zo rfl rfl <| zv (ov_pickT rfl rfl) <| zm rfl <| zo rfl rfl <| zo rfl rfl <| zo rfl rfl <| zo rfl rfl <| zo rfl rfl <| zo rfl rfl <| zo rfl rfl <| zv (ov_pickT rfl rfl) <| zm rfl <| zo rfl rfl <| zo rfl rfl <| zo rfl rfl <| zo rfl rfl <| zo rfl rfl <| zo rfl rfl <| zo rfl rfl <| zv (ov_pickT rfl rfl) <| zn <| hc_cond_true rfl <| zg <| zs rfl <| zn <| zq <| zr <| ?_
  exact zz rfl rfl fun w' H' => ⟨bF hno, rfl, H'.ent (Ent.nil _)⟩
 skip
 have g1 := Classical.not_not.1 g1
 refine hl_on rfl rfl <| zf rfl <| hl_on rfl rfl <| zl rfl rfl <| hl_on rfl rfl <| zf rfl <| hl_on rfl rfl <| zl rfl rfl <| hl_on rfl rfl <| zv (ov_neq rfl rfl) <| zv (ov_pickF rfl rfl) <| ?_
 refine zm rfl <| hl_part (t := 27) rfl (fun g2 => ?_) (fun g2 => ?_)
 ·have hno : ¬ ((c1, c2, c3, P, V, S) : ConfC) = (d1, d2, d3, P', V', S') := fun h => g2 ((hceq.1 h).2.2.1)
  refine zo rfl rfl <| zo rfl rfl <| zo rfl rfl <| zo rfl rfl <| zo rfl rfl <| zo rfl rfl <| zo rfl rfl <| zv (ov_pickT rfl rfl) <| zm rfl <| zo rfl rfl <| zo rfl rfl <| zo rfl rfl <| zo rfl rfl <| zo rfl rfl <| zo rfl rfl <| zo rfl rfl <| zv (ov_pickT rfl rfl) <| zm rfl <| zo rfl rfl <| zo rfl rfl <| zo rfl rfl <| zo rfl rfl <| zo rfl rfl <| zo rfl rfl <| zo rfl rfl <| zv (ov_pickT rfl rfl) <| zn <| hc_cond_true rfl <| hc_seq <| hc_region <| zs rfl <| zn <| zq <| zr <| ?_
  exact zz rfl rfl fun w' H' => ⟨bF hno, rfl, H'.ent (Ent.nil _)⟩
 skip
 have g2 := Classical.not_not.1 g2
 refine hl_on rfl rfl <| zf rfl <| hl_on rfl rfl <| zl rfl rfl <| hl_on rfl rfl <| zv Z25 <| ?_
 refine hl_on rfl rfl <| zf rfl <| hl_on rfl rfl <| zl rfl rfl <| hl_on rfl rfl <| zv Z25 <| ?_
 refine hl_on rfl rfl <| zv (ov_neq rfl rfl) <| zv (ov_pickF rfl rfl) <| zm rfl <| hl_part (t := 36) rfl (fun g3 => ?_) (fun g3 => ?_)
 ·have hno : ¬ ((c1, c2, c3, P, V, S) : ConfC) = (d1, d2, d3, P', V', S') := fun h => g3 (by rw [(hceq.1 h).2.2.2.1])
  refine zo rfl rfl <| zo rfl rfl <| zo rfl rfl <| zo rfl rfl <| zo rfl rfl <| zo rfl rfl <| zo rfl rfl <| zv (ov_pickT rfl rfl) <| zm rfl <| zo rfl rfl <| zo rfl rfl <| zo rfl rfl <| zo rfl rfl <| zo rfl rfl <| zo rfl rfl <| zo rfl rfl <| zv (ov_pickT rfl rfl) <| hl_nil <| zt <| hc_cond_true rfl <| zg <| zs rfl <| hl_nil <| zt <| zq <| zr <| ?_
  exact zz rfl rfl fun w' H' => ⟨bF hno, rfl, H'.ent (Ent.nil _)⟩
 skip
 refine hl_on rfl rfl <| zf rfl <| hl_on rfl rfl <| zl rfl rfl <| hl_on rfl rfl <| zv Z25 <| ?_
 refine hl_on rfl rfl <| zf rfl <| hl_on rfl rfl <| zl rfl rfl <| hl_on rfl rfl <| zv Z25 <| ?_
 refine hl_on rfl rfl <| zv (ov_neq rfl rfl) <| zv (ov_pickF rfl rfl) <| zm rfl <| hl_part (t := 45) rfl (fun g4 => ?_) (fun g4 => ?_)
 ·have hno : ¬ ((c1, c2, c3, P, V, S) : ConfC) = (d1, d2, d3, P', V', S') := fun h => g4 (by rw [(hceq.1 h).2.2.2.2.1])
  refine zo rfl rfl <| zo rfl rfl <| zo rfl rfl <| zo rfl rfl <| zo rfl rfl <| zo rfl rfl <| zo rfl rfl <| zv (ov_pickT rfl rfl) <| zn <| hc_cond_true rfl <| hc_seq <| hc_region <| zs rfl <| zn <| zq <| zr <| ?_
  exact zz rfl rfl fun w' H' => ⟨bF hno, rfl, H'.ent (Ent.nil _)⟩
 skip
 refine hl_on rfl rfl <| zf rfl <| hl_on rfl rfl <| zl rfl rfl <| hl_on rfl rfl <| zv Z25 <| ?_
 refine hl_on rfl rfl <| zf rfl <| hl_on rfl rfl <| zl rfl rfl <| hl_on rfl rfl <| zv Z25 <| ?_
 refine hl_on rfl rfl <| zv (ov_neq rfl rfl) <| zv (ov_pickF rfl rfl) <| zn <| hc_cond rfl (fun g5 => ?_) (fun g5 => ?_)
 ·have hno : ¬ ((c1, c2, c3, P, V, S) : ConfC) = (d1, d2, d3, P', V', S') := fun h => g5 (by rw [(hceq.1 h).2.2.2.2.2])
  refine zg <| zs rfl <| zn <| zq <| zr <| ?_
  exact zz rfl rfl fun w' H' => ⟨bF hno, rfl, H'.ent (Ent.nil _)⟩
 skip
 refine zk <| hc_seq <| zg <| zs rfl <| zn <| hc_block <| ?_
 have hPl : P.length = P'.length := by omega
 have hVl : V.length = V'.length := by omega
 have hSl : S.length = S'.length := by omega
 refine hc_loops1 (σ := Nat) [2, 3] rfl 5 (fun k => .int .i64 (k : Int)) (fun k => k ≤ P.length ∧ P.take k = P'.take k) (fun k => P.length - k) (0) (⟨Nat.zero_le _, by simp⟩) rfl ?_
 rintro k ⟨hk, hkt⟩ K1 hK1
 refine hc_seq <| zg <| zm rfl <| zf rfl <| zl rfl rfl <| ?_
 refine zv Z25 <| ?_
 refine zv (ov_lss rfl rfl) <| zn <| hc_cond rfl (fun h2 => ?_) (fun h2 => ?_)
 ·have hlt : k < P.length := by omega
  have hlt2 : k < P'.length := by omega
  obtain ⟨hA, _⟩ := OldS.cells_flat (D := D) (w0 := w) (f := portV) (sz := 3) (fun _ => rfl) Z63 Sp hlt []
  obtain ⟨hB, _⟩ := OldS.cells_flat (D := D) (w0 := w) (f := portV) (sz := 3) (fun _ => rfl) Z63 Tp hlt2 []
  have hc1 := fun l => (OldS.cells_flat (D := D) (w0 := w) (f := portV) (sz := 3) (fun _ => rfl) Z63 Sp hlt l).2
  have hc2 := fun l => (OldS.cells_flat (D := D) (w0 := w) (f := portV) (sz := 3) (fun _ => rfl) Z63 Tp hlt2 l).2
  have hs1 := List.take_succ_eq_append_getElem hlt
  have hs2 := List.take_succ_eq_append_getElem hlt2
  have hat : P = P' → P[k] = P'[k] := fun e => by subst e; rfl
  have k1 := portOk' (op P[k] (List.getElem_mem hlt))
  have k2 := portOk' (qp P'[k] (List.getElem_mem hlt2))
  generalize P[k] = s at *
  generalize P'[k] = t at *
  refine zk <| hc_seq <| hc_block <| hc_seq <| hc_quiet mixed Z61 <| ?_
  refine hq_v (ov_fieldA rfl) rfl <| hq_v (zw rfl rfl) rfl <| hq_v (ov_move rfl) rfl <| hq_v (ov_idxS rfl Z62 rfl _ rfl Z64) rfl <| ?_
  refine hq_v (ov_loadG (cs := portV s) rfl rfl (hc1 _)) rfl ?_
  refine hq_v (ov_fieldA rfl) rfl <| hq_v (zw rfl rfl) rfl <| hq_v (ov_move rfl) rfl <| hq_v (ov_idxS rfl Z62 rfl _ rfl Z64) rfl <| ?_
  refine hq_v (ov_loadG (cs := portV t) rfl rfl (hc2 _)) rfl ?_
  refine hq_v (ov_neqG rfl rfl k1 k2 portV_inj) rfl ?_
  refine hq_nil <| zt <| ?_
  refine hc_cond rfl (fun h3 => ?_) (fun h3 => ?_)
  ·have hno : ¬ ((c1, c2, c3, P, V, S) : ConfC) = (d1, d2, d3, P', V', S') := fun h => h3 (hat (hceq.1 h).2.2.2.1)
   refine zg <| zs rfl <| zn <| zq <| hx_block_ret <| zr <| zr <| hx_block_ret <| zr <| ?_
   exact zz rfl rfl fun w' H' => ⟨bF hno, rfl, H'.ent (Ent.nil _)⟩
  have hst : s = t := Classical.not_not.1 h3
  refine hc_skip <| zb <| zt <| hc_region <| zm rfl <| zv (ov_add rfl rfl Z28) <| ?_
  refine zs rfl <| hl_nil <| hx_next hK1 (k + 1) (⟨hlt, by rw [hs1, hs2, hkt, hst]⟩) Z64 Z16 Z10
 have hk' : k = P.length := by omega
 have eP : P = P' := by rw [← List.take_length (l := P), ← hk', hkt, hk', hPl, List.take_length]
 refine hc_exit <| ze <| ze <| hx_block_out <| zt <| hc_seq <| zg <| zs rfl <| zn <| hc_block <| hc_loops1 (σ := Nat) [2, 3] rfl 6 (fun k => .int .i64 (k : Int)) (fun k => k ≤ V.length ∧ V.take k = V'.take k) (fun k => V.length - k) (0) (⟨Nat.zero_le _, by simp⟩) rfl ?_
 rintro k ⟨hk, hkt⟩ K2 hK2
 refine hc_seq <| zg <| zm rfl <| zf rfl <| zl rfl rfl <| ?_
 refine zv Z25 <| ?_
 refine zv (ov_lss rfl rfl) <| zn <| hc_cond rfl (fun h2 => ?_) (fun h2 => ?_)
 ·have hlt : k < V.length := by omega
  have hlt2 : k < V'.length := by omega
  obtain ⟨hA, _⟩ := OldS.cells_flat (D := D) (w0 := w) (f := vlanV) (sz := 3) (fun _ => rfl) Z63 Sv hlt []
  obtain ⟨hB, _⟩ := OldS.cells_flat (D := D) (w0 := w) (f := vlanV) (sz := 3) (fun _ => rfl) Z63 Tv hlt2 []
  have hc1 := fun l => (OldS.cells_flat (D := D) (w0 := w) (f := vlanV) (sz := 3) (fun _ => rfl) Z63 Sv hlt l).2
  have hc2 := fun l => (OldS.cells_flat (D := D) (w0 := w) (f := vlanV) (sz := 3) (fun _ => rfl) Z63 Tv hlt2 l).2
  have hs1 := List.take_succ_eq_append_getElem hlt
  have hs2 := List.take_succ_eq_append_getElem hlt2
  have hat : V = V' → V[k] = V'[k] := fun e => by subst e; rfl
  have k1 := vlanOk' (ov V[k] (List.getElem_mem hlt))
  have k2 := vlanOk' (qv V'[k] (List.getElem_mem hlt2))
  generalize V[k] = s at *
  generalize V'[k] = t at *
  refine zk <| hc_seq <| hc_block <| hc_seq <| hc_quiet mixed Z61 <| ?_
  refine hq_v (ov_fieldA rfl) rfl <| hq_v (zw rfl rfl) rfl <| hq_v (ov_move rfl) rfl <| hq_v (ov_idxS rfl Z62 rfl _ rfl Z64) rfl <| ?_
  refine hq_v (ov_loadG (cs := vlanV s) rfl rfl (hc1 _)) rfl ?_
  refine hq_v (ov_fieldA rfl) rfl <| hq_v (zw rfl rfl) rfl <| hq_v (ov_move rfl) rfl <| hq_v (ov_idxS rfl Z62 rfl _ rfl Z64) rfl <| ?_
  refine hq_v (ov_loadG (cs := vlanV t) rfl rfl (hc2 _)) rfl ?_
  refine hq_v (ov_neqG rfl rfl k1 k2 vlanV_inj) rfl ?_
  refine hq_nil <| zt <| ?_
  refine hc_cond rfl (fun h3 => ?_) (fun h3 => ?_)
  ·have hno : ¬ ((c1, c2, c3, P, V, S) : ConfC) = (d1, d2, d3, P', V', S') := fun h => h3 (hat (hceq.1 h).2.2.2.2.1)
   refine zg <| zs rfl <| zn <| zq <| hx_block_ret <| zr <| zr <| hx_block_ret <| zr <| ?_
   exact zz rfl rfl fun w' H' => ⟨bF hno, rfl, H'.ent (Ent.nil _)⟩
  have hst : s = t := Classical.not_not.1 h3
  refine hc_skip <| zb <| zt <| hc_region <| zm rfl <| zv (ov_add rfl rfl Z28) <| ?_
  refine zs rfl <| hl_nil <| hx_next hK2 (k + 1) (⟨hlt, by rw [hs1, hs2, hkt, hst]⟩) Z64 Z16 Z10
 have hk' : k = V.length := by omega
 have eV : V = V' := by rw [← List.take_length (l := V), ← hk', hkt, hk', hVl, List.take_length]
 refine hc_exit <| ze <| ze <| hx_block_out <| zt <| hc_seq <| zg <| zs rfl <| zn <| hc_block <| hc_loops1 (σ := Nat) [2, 3] rfl 7 (fun k => .int .i64 (k : Int)) (fun k => k ≤ S.length ∧ S.take k = S'.take k) (fun k => S.length - k) (0) (⟨Nat.zero_le _, by simp⟩) rfl ?_
 rintro k ⟨hk, hkt⟩ K3 hK3
 refine hc_seq <| zg <| zm rfl <| zf rfl <| zl rfl rfl <| ?_
 refine zv Z25 <| ?_
 refine zv (ov_lss rfl rfl) <| zn <| hc_cond rfl (fun h2 => ?_) (fun h2 => ?_)
 ·have hlt : k < S.length := by omega
  have hlt2 : k < S'.length := by omega
  obtain ⟨hA, _⟩ := OldS.cells_flat (D := D) (w0 := w) (f := statV) (sz := 3) (fun _ => rfl) Z63 Ss hlt []
  obtain ⟨hB, _⟩ := OldS.cells_flat (D := D) (w0 := w) (f := statV) (sz := 3) (fun _ => rfl) Z63 Ts hlt2 []
  have hc1 := fun l => (OldS.cells_flat (D := D) (w0 := w) (f := statV) (sz := 3) (fun _ => rfl) Z63 Ss hlt l).2
  have hc2 := fun l => (OldS.cells_flat (D := D) (w0 := w) (f := statV) (sz := 3) (fun _ => rfl) Z63 Ts hlt2 l).2
  have hs1 := List.take_succ_eq_append_getElem hlt
  have hs2 := List.take_succ_eq_append_getElem hlt2
  have hat : S = S' → S[k] = S'[k] := fun e => by subst e; rfl
  have k1 := statOk' (os S[k] (List.getElem_mem hlt))
  have k2 := statOk' (qs S'[k] (List.getElem_mem hlt2))
  generalize S[k] = s at *
  generalize S'[k] = t at *
  refine zk <| hc_seq <| hc_block <| hc_seq <| hc_quiet mixed Z61 <| ?_
  refine hq_v (ov_fieldA rfl) rfl <| hq_v (zw rfl rfl) rfl <| hq_v (ov_move rfl) rfl <| hq_v (ov_idxS rfl Z62 rfl _ rfl Z64) rfl <| ?_
  refine hq_v (ov_loadG (cs := statV s) rfl rfl (hc1 _)) rfl ?_
  refine hq_v (ov_fieldA rfl) rfl <| hq_v (zw rfl rfl) rfl <| hq_v (ov_move rfl) rfl <| hq_v (ov_idxS rfl Z62 rfl _ rfl Z64) rfl <| ?_
  refine hq_v (ov_loadG (cs := statV t) rfl rfl (hc2 _)) rfl ?_
  refine hq_v (ov_neqG rfl rfl k1 k2 statV_inj) rfl ?_
  refine hq_nil <| zt <| ?_
  refine hc_cond rfl (fun h3 => ?_) (fun h3 => ?_)
  ·have hno : ¬ ((c1, c2, c3, P, V, S) : ConfC) = (d1, d2, d3, P', V', S') := fun h => h3 (hat (hceq.1 h).2.2.2.2.2)
   refine zg <| zs rfl <| zn <| zq <| hx_block_ret <| zr <| zr <| hx_block_ret <| zr <| ?_
   exact zz rfl rfl fun w' H' => ⟨bF hno, rfl, H'.ent (Ent.nil _)⟩
  have hst : s = t := Classical.not_not.1 h3
  refine hc_skip <| zb <| zt <| hc_region <| zm rfl <| zv (ov_add rfl rfl Z28) <| ?_
  refine zs rfl <| hl_nil <| hx_next hK3 (k + 1) (⟨hlt, by rw [hs1, hs2, hkt, hst]⟩) Z64 Z16 Z10
 have hk' : k = S.length := by omega
 have eS : S = S' := by rw [← List.take_length (l := S), ← hk', hkt, hk', hSl, List.take_length]
 refine hc_exit <| ze <| ze <| hx_block_out <| zt <| hc_seq <| hc_region <| zs rfl <| zn <| zq <| ?_
 exact zz rfl rfl fun w' H' => ⟨bT (hceq.2 ⟨g0, g1, g2, eP, eV, eS⟩), rfl, H'.ent (Ent.nil _)⟩
end Go.Proofs.YtjlolpmmpafjeaaGreat
namespace Go.Proofs.YtjlolpmmpafjeaaGreat
open Slk
theorem Mod_nat (D : Nat → Prop) (w : World) (k : Int) (n : Nat) (hk : inI64 k) (h0 : 0 < n) (hn : n ≤ 1000000) :
  Calls Tryz.prog 14 #[.int .i64 k, .int .i64 n] w fun e w' => e = .returned (.int .i64 (modN k n : Nat)) ∧ Own D w w' [] := by
 refine (Mod_spec D w k n hk (by unfold inI64; omega) Z64).mono fun e w' ⟨he, H'⟩ => ⟨?_, H'⟩
 rw [he, if_neg Z64]
 have := Int.emod_nonneg k (show (n : Int) ≠ 0 by omega)
 unfold modN
 rw [Int.toNat_of_nonneg this]
theorem CAdd_fit (D : Nat → Prop) (w : World) (b : Nat) (l x y : List EditC) (v : Value) (hy : y = l ++ x) (hn : l.length + x.length ≤ 32) (HA : Old D w (Rep.rep x [v])) (H : Own D w w [ses b l]) :
  Calls Tryz.prog 38 #[.pointer (some ⟨b, 0, none⟩), v] w fun e w' => e = .returned (.int .i64 0) ∧ Own D w w' [ses b y] :=
 (CAdd_spec D w b l x v Z64 Z64 HA H).mono fun e w' ⟨he, H'⟩ => by
  rw [if_pos hn] at he H'
  rw [hy]; exact ⟨he, H'⟩
theorem ccom_cases (m : Nat) (s : SSt) (l : List EditC) (h : SI m s) (hf : ∀ x ∈ l, Flat.ok x) (hep : s.ep < 4294967290) :
  ∃ n er s', ccomR m s l = (n, er, s') ∧ SI m s' ∧ s'.ep ≤ s.ep + 1 ∧ s'.c.2.2.2.1.length = s.c.2.2.2.1.length ∧
   (er ≠ 0 → n = 0 ∧ s'.c = s.c ∧ l.length ≠ 0 ∧ commR m s l = (er, s')) ∧ (er = 0 → n = (l.length : Int) ∧ (l.length = 0 ∧ s' = s ∨ l.length ≠ 0 ∧ commR m s l = (0, s'))) := by
 unfold ccomR
 by_cases h0 : l.length = 0
 ·rw [if_pos h0]
  exact ⟨_, _, _, rfl, h, Nat.le_succ _, rfl, fun h => absurd rfl h, fun _ => ⟨by omega, .inl ⟨h0, rfl⟩⟩⟩
 rw [if_neg h0]
 have hr := commR_ok h hf hep
 have hp := commR_ports h hf hep
 obtain ⟨er, s', hc⟩ : ∃ er s', commR m s l = (er, s') := ⟨_, _, rfl⟩
 rw [hc] at hr hp ⊢
 obtain ⟨r1, r2, r3, r4, r5⟩ := hr
 have r4 : s'.c = if er = 0 then (edF s.c l).1 else s.c := r4
 by_cases he : er = 0
 ·subst he
  rw [if_neg (fun k => k rfl)]
  exact ⟨_, _, _, rfl, r1, r3, hp, fun h => absurd rfl h, fun _ => ⟨rfl, .inr ⟨h0, rfl⟩⟩⟩
 rw [if_pos he]
 rw [if_neg he] at r4
 exact ⟨_, _, _, rfl, r1, r3, hp, fun _ => ⟨rfl, r4, h0, rfl⟩, fun h => absurd h he⟩
theorem RCopy_spec (D : Nat → Prop) (w : World) (c : ConfC) (vp vv vs : Value) (HC0 : ConfOld D w c vp vv vs) :
  Calls Tryz.prog 67 #[.agg (cfgV c vp vv vs).toArray] w fun e w' => ∃ q : Three, e = .returned (.agg (cfgA c q).toArray) ∧ Own D w w' (cfgR c q) := by
 have hlp := HC0.lp
 have hlv := HC0.lv
 have hls := HC0.ls
 obtain ⟨Ap, cp, hvp, _, _, HSp, _⟩ := HC0.p.openF
 obtain ⟨Av, cv, hvv, _, _, HSv, _⟩ := HC0.v.openF
 obtain ⟨As, cs, hvs, _, _, HSs, _⟩ := HC0.s.openF
 have HSp : OldS D w Ap (c.2.2.2.1.flatMap portV) := HSp
 have HSv : OldS D w Av (c.2.2.2.2.1.flatMap vlanV) := HSv
 have HSs : OldS D w As (c.2.2.2.2.2.flatMap statV) := HSs
 subst hvp; subst hvv; subst hvs
 refine hc_enter (vs := [.agg (cfgV c (.slice Ap c.2.2.2.1.length cp) (.slice Av c.2.2.2.2.1.length cv) (.slice As c.2.2.2.2.2.length cs)).toArray]) Tryz.func67 rfl _ Tryz.ntmps67 rfl (Own.start D w) ?_
 simp only [argSlots, Nat.zero_add]
 refine zg <| hl_new (on_boxN rfl rfl) rfl rfl rfl fun b1 =>  ?_
 refine hl_new (on_alloc) rfl rfl rfl fun b2 => 
  zn <| zg <| hl_new (on_buildSliceN rfl rfl rfl) rfl rfl rfl fun b3 =>  ?_
 refine HL.ent (Ent.blk_row (b := b3) 3 0 rfl Z63) ?_
 refine zf rfl <| zl rfl rfl <| ?_
 refine hl_new (on_appendR (A := some ⟨b3, 0, none⟩) (news := c.2.2.2.1.flatMap portV) rfl rfl (SrcIs.old HSp) (flat_len (f := portV) (sz := 3) (fun _ => rfl) _) (flat_one portV_one _) Z63 Z64) rfl rfl rfl (fun q1 => ?_)
 rw [List.nil_append, Nat.zero_add]
 refine zf rfl <| ?_
 refine hl_u0 (on_storeE (cfgV c (.slice q1.1 c.2.2.2.1.length q1.2) (.slice Av c.2.2.2.2.1.length cv) (.slice As c.2.2.2.2.2.length cs)) rfl rfl (by simp) rfl rfl) rfl rfl ?_
 refine zn <| zg <| hl_new (on_buildSliceN rfl rfl rfl) rfl rfl rfl fun b8 =>  ?_
 refine HL.ent (Ent.blk_row (b := b8) 3 0 rfl Z63) ?_
 refine zf rfl <| zl rfl rfl <| ?_
 refine hl_new (on_appendR (A := some ⟨b8, 0, none⟩) (news := c.2.2.2.2.1.flatMap vlanV) rfl rfl (SrcIs.old HSv) (flat_len (f := vlanV) (sz := 3) (fun _ => rfl) _) (flat_one vlanV_one _) Z63 Z64) rfl rfl rfl (fun q2 => ?_)
 rw [List.nil_append, Nat.zero_add]
 refine zf rfl <| ?_
 refine hl_u0 (on_storeE (cfgV c (.slice q1.1 c.2.2.2.1.length q1.2) (.slice q2.1 c.2.2.2.2.1.length q2.2) (.slice As c.2.2.2.2.2.length cs)) rfl rfl (by simp) rfl rfl) rfl rfl ?_
 refine zn <| zg <| hl_new (on_buildSliceN rfl rfl rfl) rfl rfl rfl fun b13 =>  ?_
 refine HL.ent (Ent.blk_row (b := b13) 3 0 rfl Z63) ?_
 refine zf rfl <| zl rfl rfl <| ?_
 refine hl_new (on_appendR (A := some ⟨b13, 0, none⟩) (news := c.2.2.2.2.2.flatMap statV) rfl rfl (SrcIs.old HSs) (flat_len (f := statV) (sz := 3) (fun _ => rfl) _) (flat_one statV_one _) Z63 Z64) rfl rfl rfl (fun q3 => ?_)
 rw [List.nil_append, Nat.zero_add]
 refine zf rfl <| ?_
 refine hl_u0 (on_storeE (cfgA c (q1, q2, q3)) rfl rfl (by simp) rfl rfl) rfl rfl ?_
 refine zn <| zg <| zv Z17 <| ?_
 refine hl_u0 (on_storeGN rfl rfl rfl rfl rfl rfl) rfl rfl <| zn <| zq <| ?_
 exact results_c (.inr rfl) rfl rfl (by simp) fun w' H' => ⟨(q1, q2, q3), rfl, H'.ent Z8⟩
abbrev FirstT (n : Int) := { r : Three × ConfC × Int // (¬ (1 ≤ n ∧ n ≤ 8) ∧ r.2 = (zeroC, 1)) ∨ (1 ≤ n ∧ n ≤ 8 ∧ r.2 = (firstC n.toNat, 0)) }
theorem RFirst_res (D : Nat → Prop) (w : World) (n : Int) (hn : inI64 n) :
  Calls Tryz.prog 29 #[.int .i64 n] w fun e w' => ∃ r : FirstT n, e = .returned (.tuple #[.agg (cfgA r.1.2.1 r.1.1).toArray, .int .i64 r.1.2.2]) ∧ Own D w w' (cfgR r.1.2.1 r.1.1) := by
 unfold inI64 at hn
 refine hc_enter (vs := [.int .i64 n]) Tryz.func29 rfl _ Tryz.ntmps29 rfl (Own.start D w) ?_
 simp only [argSlots, Nat.zero_add]
 refine zg <| hl_new (on_alloc) rfl rfl rfl fun b2 =>
  zs rfl <| zn <| ?_
 refine hc_seq <| zg <| zm rfl <| zv (ov_lss rfl rfl) <| zm rfl <| hl_part (t := 9) rfl (fun h1 => ?_) (fun h1 => ?_)
 ·refine zo rfl rfl <| zo rfl rfl <| zv (ov_pickT rfl rfl) <| zn <| hc_cond_true rfl <| zg <| zv (ov_buildSN rfl rfl) <| ?_
  refine hl_u0 (on_storeGN rfl rfl rfl rfl rfl rfl) rfl rfl <| zs rfl <| zn <| zq <| zr <| ?_
  exact results_ct (.inr rfl) rfl rfl (by simp) rfl fun w' H' => ⟨⟨(q0, zeroC, 1), .inl ⟨by omega, rfl⟩⟩, rfl, H'.ent (Ent.trans (Ent.cfgR0 _) Ent.append_l)⟩
 refine hl_on rfl rfl <| zm rfl <| hl_on rfl rfl <| zv (ov_gtr rfl rfl) <| zv (ov_pickF rfl rfl) <| zn <| hc_cond rfl (fun h2 => ?_) (fun h2 => ?_)
 ·refine zg <| zv (ov_buildSN rfl rfl) <| ?_
  refine hl_u0 (on_storeGN rfl rfl rfl rfl rfl rfl) rfl rfl <| zs rfl <| zn <| zq <| zr <| ?_
  exact results_ct (.inr rfl) rfl rfl (by simp) rfl fun w' H' => ⟨⟨(q0, zeroC, 1), .inl ⟨by omega, rfl⟩⟩, rfl, H'.ent (Ent.trans (Ent.cfgR0 _) Ent.append_l)⟩
 obtain ⟨m, hm⟩ : ∃ m : Nat, n = (m : Int) := ⟨n.toNat, by omega⟩
 subst hm
 refine zk <| zg <| zv (ov_buildSN rfl rfl) <| ?_
 refine hl_new (on_alloc) rfl rfl rfl fun b4 => 
  hl_u0 (on_storeGN rfl rfl rfl rfl rfl rfl) rfl rfl <| zn <| zg <| ?_
 refine zv (ov_buildSN rfl rfl) <| ?_
 refine hl_new (on_alloc) rfl rfl rfl fun b5 => 
  hl_u0 (on_storeGN rfl rfl rfl rfl rfl rfl) rfl rfl <| zn <| hc_seq <| hc_seq <| ?_
 refine hc_region <| zs rfl <| zn <| hc_block <| hc_loopK1 (σ := Nat × Option Addr × Nat) [0, 2, 4, 5] rfl 6 (fun s => .int .i64 (s.1 : Int)) (fun s => [blk b4 49 [.int .i64 32768, .int .i64 20, .int .i64 15, .slice s.2.1 s.1 s.2.2, .slice none 0 0, .slice none 0 0], row s.2.1 83 3 s.1 s.2.2 ((List.replicate s.1 ((true, 20000, 1) : PortC)).flatMap portV), blk b5 147 [.int .i64 1, .int .u8 ((2 ^ s.1 - 1 : Nat) : Int), .int .u8 0], blk b2 49 [.int .i64 0, .int .i64 0, .int .i64 0, .slice none 0 0, .slice none 0 0, .slice none 0 0]]) (fun s => s.1 ≤ m) (fun s => m - s.1) ((0, none, 0)) (Nat.zero_le _) rfl (Ent.trans (b := [blk b4 49 [.int .i64 32768, .int .i64 20, .int .i64 15, .slice none 0 0, .slice none 0 0, .slice none 0 0], row none 83 3 0 0 [], blk b5 147 [.int .i64 1, .int .u8 0, .int .u8 0], blk b2 49 [.int .i64 0, .int .i64 0, .int .i64 0, .slice none 0 0, .slice none 0 0, .slice none 0 0]]) (Ent.trans (Ent.nil_row 83 3) Z8) (Ent.refl _)) ?_
 rintro ⟨p, A, c⟩ hp K1 hK1
 dsimp only at hp ⊢
 refine hc_seq <| zg <| zm rfl <| zm rfl <| zv (ov_lss rfl rfl) <| zn <| hc_cond rfl (fun h => ?_) (fun h => ?_)
 ·have hlt : p < m := by omega
  obtain ⟨k1, k2⟩ := shl_or ⟨p, by omega⟩
  have hrep : (List.replicate p ((true, 20000, 1) : PortC)).flatMap portV ++ portV (true, 20000, 1) = (List.replicate (p + 1) ((true, 20000, 1) : PortC)).flatMap portV := by
   rw [List.replicate_succ', List.flatMap_append, List.flatMap_singleton]
  refine zk <| hc_seq <| hc_block <| zg <| zf rfl <| zl rfl rfl <| zv (ov_buildSN rfl rfl) <| ?_
  refine hl_new (on_buildSliceN rfl rfl rfl) rfl rfl rfl fun b24 =>  ?_
  refine hl_new (on_appendR (A := A) (news := portV (true, 20000, 1)) rfl rfl (SrcIs.blk (b := b24)) rfl Z49 Z63 Z64) rfl rfl rfl (fun q2 => ?_)
  rw [hrep]
  refine zf rfl <| ?_
  refine hl_u0 (on_storeE [.int .i64 32768, .int .i64 20, .int .i64 15, .slice q2.1 (p + 1) q2.2, .slice none 0 0, .slice none 0 0] rfl rfl (by simp) rfl rfl) rfl rfl ?_
  refine zn <| hc_region <| zf rfl <| zl rfl rfl <| zm rfl <| ?_
  refine zv (ov_conv rfl Z29) <| ?_
  refine hl_v (ov_shl (m := ((2 ^ p : Nat) : Int)) rfl rfl Z64 k1) rfl ?_
  refine hl_v (ov_or (m := ((2 ^ (p + 1) - 1 : Nat) : Int)) rfl rfl k2) rfl <| zf rfl <| ?_
  refine hl_u0 (on_storeE [.int .i64 1, .int .u8 ((2 ^ (p + 1) - 1 : Nat) : Int), .int .u8 0] rfl rfl (by simp) rfl rfl) rfl rfl ?_
  refine hl_nil <| zb <| zt <| hc_region <| zm rfl <| zv (ov_add rfl rfl Z28) <| ?_
  refine zs rfl <| hl_nil <| hx_next hK1 ((p + 1, q2)) (hlt) (by show m - (p + 1) < m - p; omega) Z16 Z10
 have hpn : p = m := by omega
 subst hpn
 have hlt : 2 ^ p ≤ 2 ^ 8 := Nat.pow_le_pow_right Z63 Z64
 have hu : (firstC p).2.2.2.2.1.flatMap vlanV = [.int .i64 1, .int .u8 ((2 ^ p - 1 : Nat) : Int), .int .u8 0] := by
  show vlanV (1, UInt8.ofNat (2 ^ p - 1), 0) ++ [] = _
  rw [List.append_nil]
  show [Value.int .i64 1, u8v (UInt8.ofNat (2 ^ p - 1)), u8v 0] = _
  rw [u8v_ofNat, Nat.mod_eq_of_lt Z64]; rfl
 have hl : (firstC p).2.2.2.1.length = p := List.length_replicate
 refine hc_exit <| ze <| ze <| hx_block_out <| zt <| hc_seq <| hc_region <| zv Z17 <| ?_
 refine hl_new (on_buildSliceN rfl rfl rfl) rfl rfl rfl fun b35 => 
  zf rfl <| hl_u0 (on_storeN rfl rfl rfl rfl rfl) rfl rfl <| zn <| hc_seq <| ?_
 refine hc_region <| zv Z17 <| ?_
 refine hl_u0 (on_storeGN rfl rfl rfl rfl rfl rfl) rfl rfl <| zs rfl <| zn <| zq <| ?_
 exact results_ct (.inr rfl) rfl rfl (by simp) rfl fun w' H' => ⟨⟨(((A, c), (some ⟨b35, 0, none⟩, 1), (none, 0)), firstC p, 0), .inr ⟨by omega, by omega, rfl⟩⟩, by dsimp only [cfgA]; rw [hl]; rfl, H'.ent (by dsimp only [cfgR]; rw [hl, hu]; exact (Ent.trans (b := [row none 149 3 0 0 [], blk b35 147 [.int .i64 1, .int .u8 ((2 ^ p - 1 : Nat) : Int), .int .u8 0], row A 83 3 p c ((firstC p).2.2.2.1.flatMap portV)]) (Ent.trans (Ent.nil_row 149 3) (show Ent _ [row none 149 3 0 0 [], _, row A 83 3 p c ((List.replicate p ((true, 20000, 1) : PortC)).flatMap portV)] from Z8)) (Ent.trans (b := [row (some ⟨b35, 0, none⟩) 147 3 1 1 [.int .i64 1, .int .u8 ((2 ^ p - 1 : Nat) : Int), .int .u8 0], row none 149 3 0 0 [], row A 83 3 p c ((firstC p).2.2.2.1.flatMap portV)]) (Ent.trans (b := [blk b35 147 [.int .i64 1, .int .u8 ((2 ^ p - 1 : Nat) : Int), .int .u8 0], row none 149 3 0 0 [], row A 83 3 p c ((firstC p).2.2.2.1.flatMap portV)]) Z8 (Ent.blk_row 3 1 rfl Z63)) (show Ent _ [row A 83 3 p c ((firstC p).2.2.2.1.flatMap portV), row (some ⟨b35, 0, none⟩) 147 3 1 1 [.int .i64 1, .int .u8 ((2 ^ p - 1 : Nat) : Int), .int .u8 0], row none 149 3 0 0 []] from Z8))))⟩
end Go.Proofs.YtjlolpmmpafjeaaGreat
