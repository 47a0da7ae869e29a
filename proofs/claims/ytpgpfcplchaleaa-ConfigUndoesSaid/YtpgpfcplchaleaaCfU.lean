import Derived.Test.YtpgpfcplchaleaaCfP
import Derived.Test.YtpgpfcplchaleaaCodM
set_option linter.unusedVariables false
set_option linter.unusedSimpArgs false
namespace Go.Proofs.Ytpgpfcplchaleaa
open Slk
def putP (c : ConfC) (k : Nat) (x : PortC) : ConfC := (c.1, c.2.1, c.2.2.1, c.2.2.2.1.set k x, c.2.2.2.2)
theorem one_up {c : ConfC} {k : Nat} {p : PortC} (hp : c.2.2.2.1[k]? = some p) (v : Int) (hv : v = 0 ∨ v = 1) : oneC c (4, k, v, 0, 0, 0, 0) = (putP c k (decide (v = 1), p.2), 0) := by
  obtain ⟨hk, rfl⟩ := List.getElem?_eq_some_iff.1 hp
  rw [one_port _ _ (show 4 ≤ (4 : Int) ∧ (4 : Int) ≤ 6 by decide)]
  unfold portC
  rw [if_neg (by show ¬ ((k : Int) < 0 ∨ (c.2.2.2.1.length : Int) ≤ k); omega)]
  dsimp only
  rw [if_pos rfl, if_neg (by omega), Int.toNat_natCast, List.getD_eq_getElem?_getD, List.getElem?_eq_getElem hk]
  rfl
theorem one_cost {c : ConfC} {k : Nat} {p : PortC} (hp : c.2.2.2.1[k]? = some p) (v : Int) (hv : 0 ≤ v ∧ v ≤ 4294967295) : oneC c (5, k, v, 0, 0, 0, 0) = (putP c k (p.1, UInt32.ofNat v.toNat, p.2.2), 0) := by
  obtain ⟨hk, rfl⟩ := List.getElem?_eq_some_iff.1 hp
  rw [one_port _ _ (show 4 ≤ (5 : Int) ∧ (5 : Int) ≤ 6 by decide)]
  unfold portC
  rw [if_neg (by show ¬ ((k : Int) < 0 ∨ (c.2.2.2.1.length : Int) ≤ k); omega)]
  dsimp only
  rw [if_neg (by decide), if_pos rfl, if_neg (by omega), Int.toNat_natCast, List.getD_eq_getElem?_getD, List.getElem?_eq_getElem hk]
  rfl
def undoC (c : ConfC) (k : Nat) (N : Nat) (p : PortC) : ConfC := (4096 * ((N % 16 : Nat) : Int), c.2.1, c.2.2.1, c.2.2.2.1.set k (!p.1, UInt32.ofNat (1 + N), p.2.2), c.2.2.2.2)
def lu1 (k : Nat) (a u z : Int) : List EditC := [(5, k, a, 0, 0, 0, 0), (4, k, u, 0, 0, 0, 0), (1, 0, z, 0, 0, 0, 0)]
def lu2 (c : ConfC) (k : Nat) (was pc : Int) : List EditC := [(1, 0, c.1, 0, 0, 0, 0), (4, k, was, 0, 0, 0, 0), (5, k, pc, 0, 0, 0, 0)]
theorem lu1_fold {c : ConfC} {k N : Nat} {p : PortC} {was a u z : Int} (ha : a = 1 + (N : Int)) (hu : u = 1 - was) (hz : z = 4096 * ((N % 16 : Nat) : Int)) (hN : N < 65536) (hp : c.2.2.2.1[k]? = some p) (hw : was = if p.1 then 1 else 0) : foldC c (lu1 k a u z) = (undoC c k N p, 0) := by
  subst ha; subst hu; subst hz
  obtain ⟨hk, _⟩ := List.getElem?_eq_some_iff.1 hp
  unfold lu1
  rw [fold_cons (one_cost hp _ (by omega))]
  rw [fold_cons (one_up (c := putP c k (p.1, UInt32.ofNat (1 + (N : Int)).toNat, p.2.2)) (p := (p.1, UInt32.ofNat (1 + (N : Int)).toNat, p.2.2)) (by show (c.2.2.2.1.set k _)[k]? = _; rw [List.getElem?_set_self hk]) (1 - was) (by rw [hw]; cases p.1 <;> decide))]
  rw [fold_cons (one_prio _ _ rfl)]
  have e1 : (1 + (N : Int)).toNat = 1 + N := by omega
  have e2 : decide (1 - was = 1) = !p.1 := by rw [hw]; cases p.1 <;> decide
  show ((_, (putP (putP c k _) k _).2), (0 : Int)) = _
  unfold putP undoC
  rw [e1, e2]
  dsimp only
  rw [List.set_set]
theorem lu2_fold {c : ConfC} {k N : Nat} {p : PortC} {was pc : Int} (hpc : pc = (p.2.1.toNat : Int)) (hp : c.2.2.2.1[k]? = some p) (hw : was = if p.1 then 1 else 0) : foldC (undoC c k N p) (lu2 c k was pc) = (c, 0) := by
  subst hpc
  obtain ⟨hk, hpk⟩ := List.getElem?_eq_some_iff.1 hp
  have hu := p.2.1.toNat_lt
  unfold lu2
  rw [fold_cons (one_prio _ _ rfl)]
  rw [fold_cons (one_up (p := (!p.1, UInt32.ofNat (1 + N), p.2.2)) (by show (c.2.2.2.1.set k _)[k]? = _; rw [List.getElem?_set_self hk]) was (by rw [hw]; cases p.1 <;> decide))]
  rw [fold_cons (one_cost (p := (decide (was = 1), UInt32.ofNat (1 + N), p.2.2)) (by show ((c.2.2.2.1.set k _).set k _)[k]? = _; rw [List.getElem?_set_self (by rw [List.length_set]; exact hk)]) _ (by omega))]
  have e2 : decide (was = 1) = p.1 := by rw [hw]; cases p.1 <;> decide
  show (putP _ k _, (0 : Int)) = _
  unfold putP undoC
  rw [e2]
  dsimp only
  rw [List.set_set, List.set_set, Int.toNat_natCast, UInt32.ofNat_toNat, ← hpk, List.set_getElem_self]
theorem undo_good {c : ConfC} {k N : Nat} {p : PortC} (h : goodP c) (hN : N < 65536) (hp : c.2.2.2.1[k]? = some p) : goodP (undoC c k N p) := by
  obtain ⟨hk, hpk⟩ := List.getElem?_eq_some_iff.1 hp
  obtain ⟨⟨t1, t2, t3, t4, t5, t6, t7, t8⟩, ⟨v1, v2, v3, v4⟩, ⟨p1, p2, p3⟩, s1, s2, s3⟩ := h
  have hl : (c.2.2.2.1.set k (!p.1, UInt32.ofNat (1 + N), p.2.2)).length = c.2.2.2.1.length := List.length_set
  refine ⟨⟨?_, ?_, ?_, t4, t5, t6, t7, t8⟩, ⟨v1, v2, fun i hi => ?_, v4⟩, ⟨?_, ?_, fun i hi => ?_⟩, s1, s2, fun i hi => ?_⟩
  · show 0 ≤ 4096 * ((N % 16 : Nat) : Int); omega
  · show 4096 * ((N % 16 : Nat) : Int) ≤ 61440; omega
  · show 4096 * ((N % 16 : Nat) : Int) % 4096 = 0; omega
  · show vlanOk (c.2.2.2.1.set k _).length _
    rw [hl]; exact v3 i hi
  · show 1 ≤ (c.2.2.2.1.set k _).length
    rw [hl]; exact p1
  · show (c.2.2.2.1.set k _).length ≤ 8
    rw [hl]; exact p2
  · have hi : i < (c.2.2.2.1.set k (!p.1, UInt32.ofNat (1 + N), p.2.2)).length := hi
    show portOk c.2.2.2.2.1 (c.2.2.2.1.set k (!p.1, UInt32.ofNat (1 + N), p.2.2))[i]
    rw [hl] at hi
    rw [List.getElem_set]
    split
    · have := p3 k hk
      rw [hpk] at this
      refine ⟨this.1, ?_, ?_⟩
      · show 1 ≤ (UInt32.ofNat (1 + N)).toNat
        rw [UInt32.toNat_ofNat']; omega
      show (UInt32.ofNat (1 + N)).toNat ≤ 200000000
      rw [UInt32.toNat_ofNat']; omega
    exact p3 i hi
  show statOk (c.2.2.2.1.set k _).length _ _
  rw [hl]; exact s3 i hi
theorem lu1_len {k : Nat} {a u z : Int} : (lu1 k a u z).length = 3 := rfl
theorem lu2_len {c : ConfC} {k : Nat} {was pc : Int} : (lu2 c k was pc).length = 3 := rfl
theorem lu1_ok {k : Nat} {a u z : Int} (hk : k < 1000) (ha : 0 ≤ a ∧ a ≤ 100000) (hu : 0 ≤ u ∧ u ≤ 1) (hz : 0 ≤ z ∧ z ≤ 100000) : ∀ x ∈ lu1 k a u z, Flat.ok x := fun x hx => by
  simp only [lu1, List.mem_cons, List.not_mem_nil, or_false] at hx
  rcases hx with rfl | rfl | rfl
  · exact editOk1 _ ⟨by show -1000000000 ≤ (5 : Int); decide, by show (5 : Int) ≤ _; decide⟩ ⟨by show -1000000000 ≤ (k : Int); omega, by show (k : Int) ≤ 1000000000; omega⟩ (inI _ (by dsimp only; omega)) ⟨by show -1000000000 ≤ (0 : Int); decide, by show (0 : Int) ≤ _; decide⟩
  · exact editOk1 _ ⟨by show -1000000000 ≤ (4 : Int); decide, by show (4 : Int) ≤ _; decide⟩ ⟨by show -1000000000 ≤ (k : Int); omega, by show (k : Int) ≤ 1000000000; omega⟩ (inI _ (by dsimp only; omega)) ⟨by show -1000000000 ≤ (0 : Int); decide, by show (0 : Int) ≤ _; decide⟩
  · exact editOk1 _ ⟨by show -1000000000 ≤ (1 : Int); decide, by show (1 : Int) ≤ _; decide⟩ ⟨by show -1000000000 ≤ (0 : Int); decide, by show (0 : Int) ≤ _; decide⟩ (inI _ (by dsimp only; omega)) ⟨by show -1000000000 ≤ (0 : Int); decide, by show (0 : Int) ≤ _; decide⟩
theorem lu2_ok {c : ConfC} {k : Nat} {was pc : Int} (hk : k < 1000) (hc : inI64 c.1) (hw : was = 0 ∨ was = 1) (hu : 0 ≤ pc ∧ pc ≤ 4294967295) : ∀ x ∈ lu2 c k was pc, Flat.ok x := fun x hx => by
  simp only [lu2, List.mem_cons, List.not_mem_nil, or_false] at hx
  rcases hx with rfl | rfl | rfl
  · exact editOk1 _ ⟨by show -1000000000 ≤ (1 : Int); decide, by show (1 : Int) ≤ _; decide⟩ ⟨by show -1000000000 ≤ (0 : Int); decide, by show (0 : Int) ≤ _; decide⟩ hc ⟨by show -1000000000 ≤ (0 : Int); decide, by show (0 : Int) ≤ _; decide⟩
  · exact editOk1 _ ⟨by show -1000000000 ≤ (4 : Int); decide, by show (4 : Int) ≤ _; decide⟩ ⟨by show -1000000000 ≤ (k : Int); omega, by show (k : Int) ≤ 1000000000; omega⟩ (inI _ (by dsimp only; omega)) ⟨by show -1000000000 ≤ (0 : Int); decide, by show (0 : Int) ≤ _; decide⟩
  · exact editOk1 _ ⟨by show -1000000000 ≤ (5 : Int); decide, by show (5 : Int) ≤ _; decide⟩ ⟨by show -1000000000 ≤ (k : Int); omega, by show (k : Int) ≤ 1000000000; omega⟩ (by unfold inI64; dsimp only; omega) ⟨by show -1000000000 ≤ (0 : Int); decide, by show (0 : Int) ≤ _; decide⟩
set_option maxHeartbeats 4000000 in
theorem ConfigUndoes_walk (W : World) (c0 : List Value) (v1 v2 : Value) (c : ConfC) (pp : UInt8) (nn : UInt16) (h0 : Old none' W (Rep.rep c c0)) (h1 : Old none' W (Rep.rep pp [v1])) (h2 : Old none' W (Rep.rep nn [v2])) :
    Calls Try.prog 14 #[.agg c0.toArray, v1, v2] W fun e w' => e = .returned (.bool true) ∧ Own none' W w' [] := by
  obtain ⟨Ap, cp, Av, cv, As, cx, rfl, HCo⟩ := conf_open h0
  obtain ⟨hh1, _, e1⟩ := h1
  have e1 : [v1] = [Value.int .u8 pp.toNat] := e1
  obtain rfl : v1 = .int .u8 pp.toNat := by simpa using e1
  obtain ⟨hh2, _, e2⟩ := h2
  have e2 : [v2] = [Value.int .u16 nn.toNat] := e2
  obtain rfl : v2 = .int .u16 nn.toNat := by simpa using e2
  have hpp := pp.toNat_lt
  have hN := nn.toNat_lt
  obtain ⟨N, hNe⟩ : ∃ N, N = nn.toNat := ⟨_, rfl⟩
  rw [← hNe] at hN ⊢
  obtain ⟨M, hM⟩ : ∃ M, M = pp.toNat := ⟨_, rfl⟩
  rw [← hM] at hpp ⊢
  refine hc_enter (vs := [.agg (cfgV c (.slice Ap c.2.2.2.1.length cp) (.slice Av c.2.2.2.2.1.length cv) (.slice As c.2.2.2.2.2.length cx)).toArray, .int .u8 (M : Int), .int .u16 (N : Int)]) Try.func14 rfl _ Try.ntmps14 rfl (Own.start none' W) ?_
  simp only [argSlots, Nat.zero_add]
  refine hc_seq <| hc_region <| hl_new (on_boxN rfl rfl) rfl rfl rfl fun b3 =>  ?_
  refine hl_v (ov_assign rfl) rfl <| hl_nil <| hx_then_normal <| hc_seq <| hc_seq <| hc_region <| ?_
  refine hl_v (by first | exact ov_loadW rfl (by simp; done) | exact ov_loadGB rfl rfl) rfl <| ?_
  refine hl_call (σ := BIff (c.2.2.2.1.length ≤ 20 ∧ c.2.2.2.2.1.length ≤ 40 ∧ c.2.2.2.2.2.length ≤ 40)) Try.call15 rfl rfl (fun w1 H1 => Own.callx0 H1 fun D' hold hin H2 => Fair_spec D' w1 c.1 c.2.1 c.2.2.1 Ap Av As c.2.2.2.1.length cp c.2.2.2.2.1.length cv c.2.2.2.2.2.length cx) ?_
  intro f
  try rw [List.nil_append]
  refine hl_v (by first | exact ov_notd rfl | exact ov_not rfl) rfl <| ?_
  refine hl_v (ov_move rfl) rfl <| ?_
  refine hl_partb (t := 16) rfl (fun a1 => ?_) (fun a1 => ?_)
  · refine hl_off rfl rfl rfl rfl rfl rfl <| hl_off rfl rfl rfl rfl rfl rfl <| hl_off rfl rfl rfl rfl rfl rfl <| hl_v (ov_pickT rfl rfl) rfl <| hl_nil <| hx_then_normal <| ?_
    refine hc_cond_true rfl <| hc_seq <| hc_region <| ?_
    refine hl_c Try.call28 rfl rfl (fun w1 H1 => Own.calln H1 fun D' hold hin H2 => wakes5_spec D' w1) ?_
    refine hl_v (ov_assign rfl) rfl <| hl_nil <| hx_then_normal <| hc_ret <| hx_then_ret <| ?_
    exact results_1 (.inr rfl) rfl rfl fun w' H' => ⟨rfl, H'.ent (Ent.nil _)⟩
  have hf := f.2.1 (by simpa using a1)
  have HCf := HCo (by omega) (by omega) (by omega)
  have hokc := HCf.okC
  obtain ⟨_, _, hcp, _, _, HSp, _⟩ := HCf.p.openF
  have HSp : OldS none' W Ap (c.2.2.2.1.flatMap portV) := by injection hcp with e1 e2 e3; rw [e1]; exact HSp
  refine hl_on rfl rfl <| hl_v (by first | exact ov_loadW rfl (by simp; done) | exact ov_loadGB rfl rfl) rfl <| ?_
  refine hl_on rfl rfl <| hl_call (σ := BIff (goodP c)) Try.call33 rfl rfl (fun w1 H1 => Own.callx0 H1 fun D' hold hin H2 => RGood_spec D' w1 c _ _ _ (HCf.hold hold)) ?_
  intro g1
  try rw [List.nil_append]
  refine hl_on rfl rfl <| hl_v (by first | exact ov_notd rfl | exact ov_not rfl) rfl <| ?_
  refine hl_v (ov_pickF rfl rfl) rfl <| hl_nil <| hx_then_normal <| ?_
  refine hc_cond_bool rfl (fun a2 => ?_) (fun a2 => ?_)
  · refine hc_seq <| hc_region <| ?_
    refine hl_c Try.call28 rfl rfl (fun w1 H1 => Own.calln H1 fun D' hold hin H2 => wakes5_spec D' w1) ?_
    refine hl_v (ov_assign rfl) rfl <| hl_nil <| hx_then_normal <| hc_ret <| hx_then_ret <| ?_
    exact results_1 (.inr rfl) rfl rfl fun w' H' => ⟨rfl, H'.ent (Ent.nil _)⟩
  have hg : goodP c := g1.2.1 (by simpa using a2)
  have hl1 : 1 ≤ c.2.2.2.1.length := hg.2.2.1.1
  obtain ⟨k, hk⟩ : ∃ k, k = M % c.2.2.2.1.length := ⟨_, rfl⟩
  have hkl : k < c.2.2.2.1.length := by rw [hk]; exact Nat.mod_lt _ (by omega)
  obtain ⟨p, hp⟩ : ∃ p, c.2.2.2.1[k]? = some p := ⟨_, List.getElem?_eq_getElem hkl⟩
  obtain ⟨_, hpk⟩ := List.getElem?_eq_some_iff.1 hp
  obtain ⟨hA, hcell⟩ := OldS.cells_flat (D := none') (w0 := W) (f := portV) (sz := 3) (fun _ => rfl) (by decide) HSp hkl []
  have hcell := fun l' => (OldS.cells_flat (D := none') (w0 := W) (f := portV) (sz := 3) (fun _ => rfl) (by decide) HSp hkl l').2
  rw [hpk] at hcell
  obtain ⟨was, hw⟩ : ∃ was : Int, was = if p.1 then 1 else 0 := ⟨_, rfl⟩
  have hw01 : was = 0 ∨ was = 1 := by rw [hw]; cases p.1 <;> simp
  obtain ⟨a, ha⟩ : ∃ a : Int, a = 1 + (N : Int) := ⟨_, rfl⟩
  obtain ⟨u, hu⟩ : ∃ u : Int, u = 1 - was := ⟨_, rfl⟩
  obtain ⟨z, hz⟩ : ∃ z : Int, z = 4096 * ((N % 16 : Nat) : Int) := ⟨_, rfl⟩
  obtain ⟨pc, hpc⟩ : ∃ pc : Int, pc = (p.2.1.toNat : Int) := ⟨_, rfl⟩
  have hpcl := p.2.1.toNat_lt
  refine hc_skip <| hx_then_normal <| hc_seq <| hc_region <| hl_v (ov_move rfl) rfl <| hl_v (ov_conv rfl (by first | exact wrap_i64 (by omega) | rfl)) rfl <| ?_
  refine hl_v (ov_fieldA rfl) rfl <| hl_v (ov_load rfl (CellIs.blk rfl)) rfl <| hl_v (by first | exact ov_len rfl | exact ov_lenS rfl) rfl <| ?_
  refine hl_v (ov_remE rfl rfl (by omega) hk) rfl ?_
  refine hl_v (ov_assign rfl) rfl <| hl_nil <| hx_then_normal <| hc_seq <| hc_region <| hl_v (ov_assign rfl) rfl <| ?_
  refine hl_nil <| hx_then_normal <| hc_seq <| ?_
  refine hc_cuts1 (σ := Unit) [2, 3, 7] rfl 8 (fun _u => .int .i64 was) (fun K1 hK1 => ?_) (fun _u => ?_)
  · refine hc_seq <| hc_region <| hl_v (ov_fieldA rfl) rfl <| hl_v (ov_load rfl (CellIs.blk rfl)) rfl <| hl_v (ov_move rfl) rfl <| ?_
    refine hl_v (ov_idxS rfl hA rfl k rfl hkl) rfl ?_
    refine hl_v (ov_fieldA rfl) rfl <| ?_
    refine hl_v (ov_load rfl ((hcell _).cell (i := 0) rfl)) rfl ?_
    refine hl_nil <| hx_then_normal <| ?_
    refine hc_cond_bool rfl (fun a3 => ?_) (fun a3 => ?_)
    · rw [a3] at hw
      obtain rfl : was = 1 := hw
      refine hc_region <| hl_v (ov_assign rfl) rfl <| hl_nil <| ?_
      refine hx_cut hK1 (()) (by repeat (first | exact Slots.sub_nil _ | refine Slots.sub_cons rfl ?_)) (by first | assumption | exact Ent.refl _ | exact Ent.nil _ | (repeat (first | exact Ent.refl _ | exact Ent.nil _ | refine Ent.pick ?_)))
    rw [a3] at hw
    obtain rfl : was = 0 := hw
    refine hc_skip <| ?_
    refine hx_cut hK1 (()) (by repeat (first | exact Slots.sub_nil _ | refine Slots.sub_cons rfl ?_)) (by first | assumption | exact Ent.refl _ | exact Ent.nil _ | (repeat (first | exact Ent.refl _ | exact Ent.nil _ | refine Ent.pick ?_)))
  refine hx_then_normal <| hc_seq <| hc_region <| hl_v (by first | exact ov_loadW rfl (by simp; done) | exact ov_loadGB rfl rfl) rfl <| ?_
  refine hl_v (ov_move rfl) rfl <| hl_v (ov_move rfl) rfl <| hl_v (ov_conv rfl (by first | exact wrap_i64 (by omega) | rfl)) rfl <| ?_
  refine hl_v (ov_add (m := a) rfl rfl (by rw [ha]; exact wrap_i64 (by omega))) rfl ?_
  refine hl_v (ov_buildSN rfl rfl) rfl <| ?_
  refine hl_v (ov_move rfl) rfl <| hl_v (ov_move rfl) rfl <| ?_
  refine hl_v (ov_sub (m := u) rfl rfl (by rw [hu]; exact wrap_i64 (by omega))) rfl ?_
  refine hl_v (ov_buildSN rfl rfl) rfl <| ?_
  refine hl_v (ov_move rfl) rfl <| hl_v (ov_conv rfl (by first | exact wrap_i64 (by omega) | rfl)) rfl <| ?_
  refine hl_v (ov_remE (m := N % 16) (b := 16) rfl rfl (by omega) rfl) rfl ?_
  refine hl_v (ov_mul (m := z) rfl rfl (by rw [hz]; exact wrap_i64 (by omega))) rfl ?_
  refine hl_v (ov_buildSN rfl rfl) rfl <| ?_
  refine hl_new (on_buildSlice (res := (lu1 k a u z).flatMap editV) rfl rfl (by kernel_rfl)) rfl rfl rfl (fun b50 => ?_)
  refine hl_call (σ := EditT c (lu1 k a u z)) Try.call36 rfl rfl (fun w1 H1 => Own.callx0 H1 fun D' hold hin H2 => Edit_spec D' w1 c _ _ _ _ (lu1 k a u z) (by rw [lu1_len]; decide) (HCf.hold hold) (hin _ fun h hs ho => rep_lits (b := b50) hs (lu1 k a u z) (repL_F.2 ⟨rfl, lu1_ok (by omega) (by omega) (by omega) (by omega)⟩) (by rw [lu1_len]; decide))) ?_
  intro r1
  try rw [List.nil_append]
  refine hl_v (ov_move rfl) rfl <| hl_v (ov_extract rfl rfl) rfl <| hl_v (ov_extract rfl rfl) rfl <| hl_new (on_alloc) rfl rfl rfl fun b9 =>  ?_
  refine hl_u0 (on_storeW (vs := cfgA r1.1.2.1 r1.1.1) rfl rfl rfl (by simp) (by simp [Value.oneCell'])) rfl rfl ?_
  have hgd := undo_good (k := k) hg hN hp
  have hok1 := editR_ok r1.2 hokc (lu1_ok (by omega) (by omega) (by omega) (by omega))
  have hf1 := r1.2.ok hg (by rw [lu1_len]; decide) (lu1_fold ha hu hz hN hp hw) hgd
  obtain ⟨⟨q1, c1, e1⟩, hs1⟩ := r1
  have hf1 : (c1, e1) = (undoC c k N p, 0) := hf1
  simp only [Prod.mk.injEq] at hf1
  obtain ⟨rfl, rfl⟩ := hf1
  have ok1 : OkC (undoC c k N p) := hok1
  dsimp only
  refine HL.fact (fun w H => Own.factR q1.1.1 H) ?_
  rintro ⟨hpl, _, _, hA1⟩
  have hul : (undoC c k N p).2.2.2.1.length = c.2.2.2.1.length := List.length_set
  have hA1 : isA q1.1.1 := hA1 (by intro h; have := congrArg List.length h; rw [hpl] at this; simp only [List.length_nil] at this; omega)
  have huk : (undoC c k N p).2.2.2.1[k]? = some (!p.1, UInt32.ofNat (1 + N), p.2.2) := List.getElem?_set_self hkl
  have hut : (UInt32.ofNat (1 + N)).toNat = 1 + N := by rw [UInt32.toNat_ofNat']; omega
  have hrow : ∀ (j : Nat) (v : Value), (portV (!p.1, UInt32.ofNat (1 + N), p.2.2))[j]? = some v → j < 3 → ((undoC c k N p).2.2.2.1.flatMap portV)[k * 3 + j]? = some v := fun j v hv hj => by
    obtain ⟨hkk, hke⟩ := List.getElem?_eq_some_iff.1 huk
    rw [flat_at (f := portV) (sz := 3) (fun _ => rfl) _ k j hkk hj, hke]; exact hv
  refine hl_v (ov_assign rfl) rfl <| hl_nil <| hx_then_normal <| hc_seq <| hc_seq <| hc_quiet mixed (by kernel_rfl) <| ?_
  refine hq_v (ov_move rfl) rfl <| hq_v (ov_neq rfl rfl) rfl <| hq_v (ov_move rfl) rfl <| ?_
  refine hq_partF (t := 56) rfl ((fun h => h rfl)) ?_
  refine hq_on rfl rfl <| hq_v (ov_fieldA rfl) rfl <| hq_on rfl rfl <| hq_v (ov_load rfl (CellIs.blk rfl)) rfl <| hq_on rfl rfl <| hq_v (by first | exact ov_len rfl | exact ov_lenS rfl) rfl <| ?_
  refine hq_on rfl rfl <| hq_v (ov_fieldA rfl) rfl <| hq_on rfl rfl <| hq_v (ov_load rfl (CellIs.blk rfl)) rfl <| hq_on rfl rfl <| hq_v (by first | exact ov_len rfl | exact ov_lenS rfl) rfl <| ?_
  refine hq_on rfl rfl <| hq_v (ov_neq rfl rfl) rfl <| hq_v (ov_pickF rfl rfl) rfl <| hq_v (ov_move rfl) rfl <| ?_
  refine hq_partF (t := 65) rfl ((fun h => h (by rw [hul]))) ?_
  refine hq_on rfl rfl <| hq_v (ov_fieldA rfl) rfl <| hq_on rfl rfl <| hq_v (ov_load rfl (CellIs.blk rfl)) rfl <| hq_on rfl rfl <| hq_v (ov_move rfl) rfl <| ?_
  refine hq_on rfl rfl <| hq_v (ov_idxS rfl hA1 rfl k rfl (by omega)) rfl ?_
  refine hq_on rfl rfl <| hq_v (ov_fieldA rfl) rfl <| ?_
  refine hq_on rfl rfl <| hq_v (ov_load rfl (CellIs.row (A := q1.1.1) hA1 (i := k * 3 + 1) (hrow 1 _ rfl (by decide)))) rfl ?_
  refine hq_on rfl rfl <| hq_v (ov_move rfl) rfl <| hq_on rfl rfl <| hq_v (ov_conv rfl (by first | exact wrap_u32 (by omega) | rfl)) rfl <| ?_
  refine hq_on rfl rfl <| hq_v (ov_add rfl rfl (by first | exact wrap_u32 (by omega) | rfl)) rfl <| ?_
  refine hq_on rfl rfl <| hq_v (ov_neq rfl rfl) rfl <| hq_v (ov_pickF rfl rfl) rfl <| hq_v (ov_move rfl) rfl <| ?_
  refine hq_partF (t := 77) rfl ((fun h => h (by rw [hut]; omega))) ?_
  refine hq_on rfl rfl <| hq_v (ov_fieldA rfl) rfl <| hq_on rfl rfl <| hq_v (ov_load rfl (CellIs.blk rfl)) rfl <| hq_on rfl rfl <| hq_v (ov_move rfl) rfl <| ?_
  refine hq_on rfl rfl <| hq_v (ov_idxS rfl hA1 rfl k rfl (by omega)) rfl ?_
  refine hq_on rfl rfl <| hq_v (ov_fieldA rfl) rfl <| ?_
  refine hq_on rfl rfl <| hq_v (ov_load rfl (CellIs.row (A := q1.1.1) hA1 (i := k * 3 + 0) (hrow 0 _ rfl (by decide)))) rfl ?_
  refine hq_on rfl rfl <| hq_v (ov_fieldA rfl) rfl <| hq_on rfl rfl <| hq_v (ov_load rfl (CellIs.blk rfl)) rfl <| hq_on rfl rfl <| hq_v (ov_move rfl) rfl <| ?_
  refine hq_on rfl rfl <| hq_v (ov_idxS rfl hA rfl k rfl hkl) rfl ?_
  refine hq_on rfl rfl <| hq_v (ov_fieldA rfl) rfl <| ?_
  refine hq_on rfl rfl <| hq_v (ov_load rfl ((hcell _).cell (i := 0) rfl)) rfl ?_
  refine hq_on rfl rfl <| hq_v (ov_eqlB rfl rfl) rfl <| hq_v (ov_pickF rfl rfl) rfl <| hq_v (ov_move rfl) rfl <| ?_
  refine hq_partF (t := 92) rfl ((by cases p.1 <;> simp)) ?_
  refine hq_on rfl rfl <| hq_v (ov_fieldA rfl) rfl <| hq_on rfl rfl <| hq_v (ov_load rfl (CellIs.blk rfl)) rfl <| hq_on rfl rfl <| hq_v (ov_move rfl) rfl <| ?_
  refine hq_on rfl rfl <| hq_v (ov_idxS rfl hA1 rfl k rfl (by omega)) rfl ?_
  refine hq_on rfl rfl <| hq_v (ov_fieldA rfl) rfl <| ?_
  refine hq_on rfl rfl <| hq_v (ov_load rfl (CellIs.row (A := q1.1.1) hA1 (i := k * 3 + 2) (hrow 2 _ rfl (by decide)))) rfl ?_
  refine hq_on rfl rfl <| hq_v (ov_fieldA rfl) rfl <| hq_on rfl rfl <| hq_v (ov_load rfl (CellIs.blk rfl)) rfl <| hq_on rfl rfl <| hq_v (ov_move rfl) rfl <| ?_
  refine hq_on rfl rfl <| hq_v (ov_idxS rfl hA rfl k rfl hkl) rfl ?_
  refine hq_on rfl rfl <| hq_v (ov_fieldA rfl) rfl <| ?_
  refine hq_on rfl rfl <| hq_v (ov_load rfl ((hcell _).cell (i := 2) rfl)) rfl ?_
  refine hq_on rfl rfl <| hq_v (ov_neq rfl rfl) rfl <| hq_v (ov_pickF rfl rfl) rfl <| hq_v (ov_move rfl) rfl <| ?_
  refine hq_partF (t := 107) rfl ((fun h => h rfl)) ?_
  refine hq_on rfl rfl <| hq_v (ov_fieldA rfl) rfl <| hq_on rfl rfl <| hq_v (ov_load rfl (CellIs.blk rfl)) rfl <| hq_on rfl rfl <| hq_v (ov_move rfl) rfl <| hq_on rfl rfl <| hq_v (ov_conv rfl (by first | exact wrap_i64 (by omega) | rfl)) rfl <| ?_
  refine hq_on rfl rfl <| hq_v (ov_remE (m := N % 16) (b := 16) rfl rfl (by omega) rfl) rfl ?_
  refine hq_on rfl rfl <| hq_v (ov_mul (m := z) rfl rfl (by rw [hz]; exact wrap_i64 (by omega))) rfl ?_
  refine hq_on rfl rfl <| hq_v (ov_neq rfl rfl) rfl <| hq_v (ov_pickF rfl rfl) rfl <| hq_nil <| hx_then_normal <| ?_
  refine hc_cond_F rfl ((fun h => h (by rw [hz]; rfl))) ?_
  refine hc_skip <| hx_then_normal <| hc_seq <| ?_
  refine hc_cutK2 (σ := EditT (undoC c k N p) (lu2 c k was pc) × Nat) [3] rfl 11 (fun q => .pointer (some ⟨q.2, 0, none⟩)) 12 (fun q => .int .i64 q.1.1.2.2) (fun q => blk q.2 26 (cfgA q.1.1.2.1 q.1.1.1) :: cfgR q.1.1.2.1 q.1.1.1 ++ [blk b3 26 (cfgV c (.slice Ap c.2.2.2.1.length cp) (.slice Av c.2.2.2.2.1.length cv) (.slice As c.2.2.2.2.2.length cx))]) (fun K2 hK2 => ?_) (fun q => ?_)
  · refine hc_any [blk b3 26 (cfgV c (.slice Ap c.2.2.2.1.length cp) (.slice Av c.2.2.2.2.1.length cv) (.slice As c.2.2.2.2.2.length cx)), blk b9 26 (cfgA (undoC c k N p) q1)] mixed 24 rfl ?_
    refine ha_v 0 rfl (by first | exact ov_loadW rfl (by simp; done) | exact ov_loadGB rfl rfl) rfl <| ?_
    refine ha_v 1 rfl (ov_fieldA rfl) rfl <| ?_
    refine ha_v 2 rfl (ov_load rfl (CellIs.blk rfl)) rfl <| ?_
    refine ha_v 3 rfl (ov_buildSN rfl rfl) rfl <| ?_
    refine ha_v 4 rfl (ov_move rfl) rfl <| ?_
    refine ha_v 5 rfl (ov_move rfl) rfl <| ?_
    refine ha_v 6 rfl (ov_buildSN rfl rfl) rfl <| ?_
    refine ha_v 7 rfl (ov_move rfl) rfl <| ?_
    refine ha_v 8 rfl (ov_fieldA rfl) rfl <| ?_
    refine ha_v 9 rfl (ov_load rfl (CellIs.blk rfl)) rfl <| ?_
    refine ha_v 10 rfl (ov_move rfl) rfl <| ?_
    refine ha_v 11 rfl (ov_idxS rfl hA rfl k rfl hkl) rfl ?_
    refine ha_v 12 rfl (ov_fieldA rfl) rfl <| ?_
    refine ha_v 13 rfl (ov_load rfl ((hcell _).cell (i := 1) rfl)) rfl ?_
    refine ha_v 14 rfl (ov_conv (m := pc) rfl (by rw [hpc]; exact wrap_i64 (by omega))) rfl ?_
    refine ha_v 15 rfl (ov_buildSN rfl rfl) rfl <| ?_
    refine ha_two 16 21 (by kernel_rfl) ?_ ?_
    · skip
      refine ho_n rfl (on_buildSlice (res := (lu2 c k was pc).flatMap editV) rfl rfl (by kernel_rfl)) rfl (fun b133 => ?_)
      refine ha_two 17 21 (by kernel_rfl) ?_ ?_
      · skip
        refine ho_kx (σ := EditT (undoC c k N p) (lu2 c k was pc)) rfl Try.call36 rfl (fun w1 H1 => Own.callx0 H1 fun D' hold hin H2 => Edit_spec D' w1 (undoC c k N p) _ _ _ _ (lu2 c k was pc) (by rw [lu2_len]; decide) (ConfOld.rows (q := q1) ok1 hin) (hin _ fun h hs ho => rep_lits (b := b133) hs (lu2 c k was pc) (repL_F.2 ⟨rfl, lu2_ok (by omega) hokc.i1 hw01 (by omega)⟩) (by rw [lu2_len]; decide))) ?_
        intro r2
        try rw [List.nil_append]
        refine ha_v 18 rfl (ov_move rfl) rfl <| ?_
        refine ha_v 19 rfl (ov_extract rfl rfl) rfl <| ?_
        refine ha_v 20 rfl (ov_extract rfl rfl) rfl <| ?_
        refine ha_one 21 (by kernel_rfl) <| ?_
        refine ho_n rfl (on_alloc) rfl fun b11 =>  ?_
        refine ha_one 22 (by kernel_rfl) <| ?_
        refine ho_w0 rfl (on_storeW (vs := cfgA r2.1.2.1 r2.1.1) rfl rfl rfl (by simp) (by simp [Value.oneCell'])) rfl ?_
        refine ha_v 23 rfl (ov_assign rfl) rfl <| ?_
        refine ha_done (by kernel_rfl) <| ?_
        refine hx_cut hK2 ((r2, b11)) (by repeat (first | exact Slots.sub_nil _ | refine Slots.sub_cons rfl ?_)) (by first | assumption | exact Ent.refl _ | exact Ent.nil _ | (repeat (first | exact Ent.refl _ | exact Ent.nil _ | refine Ent.pick ?_)))
      skip
      refine ho_n rfl (on_alloc) rfl fun b11 =>  ?_
      refine ha_one 17 (by kernel_rfl) <| ?_
      refine ho_kx (σ := EditT (undoC c k N p) (lu2 c k was pc)) rfl Try.call36 rfl (fun w1 H1 => Own.callx0 H1 fun D' hold hin H2 => Edit_spec D' w1 (undoC c k N p) _ _ _ _ (lu2 c k was pc) (by rw [lu2_len]; decide) (ConfOld.rows (q := q1) ok1 hin) (hin _ fun h hs ho => rep_lits (b := b133) hs (lu2 c k was pc) (repL_F.2 ⟨rfl, lu2_ok (by omega) hokc.i1 hw01 (by omega)⟩) (by rw [lu2_len]; decide))) ?_
      intro r2
      try rw [List.nil_append]
      refine ha_v 18 rfl (ov_move rfl) rfl <| ?_
      refine ha_v 19 rfl (ov_extract rfl rfl) rfl <| ?_
      refine ha_v 20 rfl (ov_extract rfl rfl) rfl <| ?_
      refine ha_one 22 (by kernel_rfl) <| ?_
      refine ho_w0 rfl (on_storeW (vs := cfgA r2.1.2.1 r2.1.1) rfl rfl rfl (by simp) (by simp [Value.oneCell'])) rfl ?_
      refine ha_v 23 rfl (ov_assign rfl) rfl <| ?_
      refine ha_done (by kernel_rfl) <| ?_
      refine hx_cut hK2 ((r2, b11)) (by repeat (first | exact Slots.sub_nil _ | refine Slots.sub_cons rfl ?_)) (by first | assumption | exact Ent.refl _ | exact Ent.nil _ | (repeat (first | exact Ent.refl _ | exact Ent.nil _ | refine Ent.pick ?_)))
    skip
    refine ho_n rfl (on_alloc) rfl fun b11 =>  ?_
    refine ha_one 16 (by kernel_rfl) <| ?_
    refine ho_n rfl (on_buildSlice (res := (lu2 c k was pc).flatMap editV) rfl rfl (by kernel_rfl)) rfl (fun b133 => ?_)
    refine ha_one 17 (by kernel_rfl) <| ?_
    refine ho_kx (σ := EditT (undoC c k N p) (lu2 c k was pc)) rfl Try.call36 rfl (fun w1 H1 => Own.callx0 H1 fun D' hold hin H2 => Edit_spec D' w1 (undoC c k N p) _ _ _ _ (lu2 c k was pc) (by rw [lu2_len]; decide) (ConfOld.rows (q := q1) ok1 hin) (hin _ fun h hs ho => rep_lits (b := b133) hs (lu2 c k was pc) (repL_F.2 ⟨rfl, lu2_ok (by omega) hokc.i1 hw01 (by omega)⟩) (by rw [lu2_len]; decide))) ?_
    intro r2
    try rw [List.nil_append]
    refine ha_v 18 rfl (ov_move rfl) rfl <| ?_
    refine ha_v 19 rfl (ov_extract rfl rfl) rfl <| ?_
    refine ha_v 20 rfl (ov_extract rfl rfl) rfl <| ?_
    refine ha_one 22 (by kernel_rfl) <| ?_
    refine ho_w0 rfl (on_storeW (vs := cfgA r2.1.2.1 r2.1.1) rfl rfl rfl (by simp) (by simp [Value.oneCell'])) rfl ?_
    refine ha_v 23 rfl (ov_assign rfl) rfl <| ?_
    refine ha_done (by kernel_rfl) <| ?_
    refine hx_cut hK2 ((r2, b11)) (by repeat (first | exact Slots.sub_nil _ | refine Slots.sub_cons rfl ?_)) (by first | assumption | exact Ent.refl _ | exact Ent.nil _ | (repeat (first | exact Ent.refl _ | exact Ent.nil _ | refine Ent.pick ?_)))
  obtain ⟨r2, bA⟩ := q
  have hok2 := editR_ok r2.2 ok1 (lu2_ok (by omega) hokc.i1 hw01 (by omega))
  have hf2 := r2.2.ok hgd (by rw [lu2_len]; decide) (lu2_fold hpc hp hw) hg
  obtain ⟨⟨q2, c2, e2⟩, hs2⟩ := r2
  have hf2 : (c2, e2) = (c, 0) := hf2
  simp only [Prod.mk.injEq] at hf2
  obtain ⟨rfl, rfl⟩ := hf2
  dsimp only
  refine hx_then_normal <| hc_seq <| hc_region <| hl_v (ov_move rfl) rfl <| hl_v (ov_eql rfl rfl) rfl <| hl_v (ov_move rfl) rfl <| ?_
  refine hl_partT (t := 139) rfl (rfl) ?_
  refine hl_on rfl rfl <| hl_v (by first | exact ov_loadW rfl (by simp; done) | exact ov_loadGB rfl rfl) rfl <| ?_
  refine hl_on rfl rfl <| hl_v (by first | exact ov_loadW rfl (by simp; done) | exact ov_loadGB rfl rfl) rfl <| ?_
  refine hl_on rfl rfl <| hl_call (σ := BIff (c2 = c2)) Try.call34 rfl rfl (fun w1 H1 => Own.callx0 H1 fun D' hold hin H2 => Same_spec D' w1 c2 c2 _ _ _ _ _ _ (ConfOld.rows (q := q2) hokc hin) (HCf.hold hold)) ?_
  intro s4
  try rw [List.nil_append]
  have hs4 : s4.1 = true := s4.2.2 rfl
  refine hl_v (ov_pickT rfl rfl) rfl <| hl_v (ov_move rfl) rfl <| ?_
  refine hl_partb (t := 144) rfl (fun a7 => ?_) (fun a7 => ?_)
  · skip
    refine hl_on rfl rfl <| hl_c Try.call28 rfl rfl (fun w1 H1 => Own.calln H1 fun D' hold hin H2 => wakes5_spec D' w1) ?_
    refine hl_v (ov_pickT rfl rfl) rfl <| hl_v (ov_assign rfl) rfl <| hl_nil <| hx_then_normal <| hc_ret <| ?_
    exact results_1 (.inr rfl) rfl rfl fun w' H' => ⟨rfl, H'.ent (Ent.nil _)⟩
  rw [hs4] at a7; cases a7
end Go.Proofs.Ytpgpfcplchaleaa
