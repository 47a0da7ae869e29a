import Derived.Test.YtnnhopjnpplfcaaEnt8
import Derived.Test.YtnnhopjnpplfcaaEntQ
set_option linter.unusedVariables false
set_option linter.unusedSimpArgs false
namespace Go.Proofs.Ytnnhopjnpplfcaa
open Slk
theorem xor_ne (a b : UInt8) (h : b ≠ 0) : a ^^^ b ≠ a := fun e => by
  apply h
  have : a ^^^ (a ^^^ b) = a ^^^ a := by rw [e]
  simpa [← UInt8.xor_assoc] using this
theorem flat_set1 {α : Type} {f : α → List Value} {sz : Nat} (hf : ∀ x, (f x).length = sz) : ∀ (xs : List α) (i j : Nat) (y : α) (c : Value) (hi : i < xs.length), j < sz → f y = (f xs[i]).set j c → (xs.flatMap f).set (i * sz + j) c = (xs.set i y).flatMap f
  | x :: r, 0, j, y, c, _, hj, h => by
    rw [List.flatMap_cons, List.set_cons_zero, List.flatMap_cons, Nat.zero_mul, Nat.zero_add, List.set_append_left _ _ (by rw [hf]; exact hj), h]; rfl
  | x :: r, i + 1, j, y, c, hi, hj, h => by
    rw [List.flatMap_cons, List.set_cons_succ, List.flatMap_cons, List.set_append_right _ _ (by rw [hf, Nat.add_mul]; omega), hf, show (i + 1) * sz + j - sz = i * sz + j by rw [Nat.add_mul]; omega]
    rw [flat_set1 hf r i j y c (by simpa using hi) hj h]
theorem secC_set (s : Sec) (j : Nat) (hj : j < 64) (v : UInt8) : secC (s.set j v) = (secC s).set j (u8v v) := by
  unfold secC
  rw [Vector.toList_set, List.map_set]
theorem on_storeRX {P : Program} {D : Nat → Prop} {w0 : World} {env : Slots} {l : List HProp} {dst : Option Tmp} {ty : TypeId} {pos : String} {after : Array Edge} {g : Option (Nat × Bool)} {t e : TypeId} {bb sz n cap off : Nat} {z : List Value} [h : TyI P t 1 bb z] {x y : Operand} {A : Option Addr} {cs : List Value} {r : List HProp} {v : Value} (o : Nat) (cs' : List Value) (hx : evalO env x = some (.pointer (some ⟨ab A, off, none⟩))) (hy : evalO env y = some v) (hoff : off = ao A + o) [hp : PickR l A e sz n cap cs r] (ho : o < cs.length) (h1 : v.oneCell' = true) (hn : cs.set o v = cs') :
    OpNew P D w0 env l ⟨dst, .store t x y, ty, pos, after, g⟩ (fun _ : Unit => undef) (fun _ => row A e sz n cap cs' :: r) := on_storeRE cs' (hoff ▸ hx) hy ho h1 hn
theorem EntryTurns_walk (W : World) (c0 : List Value) (v1 v2 : Value) (x : EntG) (at_ : Int) (by_ : UInt8) (h0 : Old none' W (Rep.rep x c0)) (h1 : Old none' W (Rep.rep at_ [v1])) (h2 : Old none' W (Rep.rep by_ [v2])) :
    Calls Try.prog 9 #[.agg c0.toArray, v1, v2] W fun e w' => e = .returned (.bool true) ∧ Own none' W w' [] := by
  obtain ⟨A, cap, rfl, hxi, hx⟩ := entG_open h0
  obtain ⟨hh1, _, e1, hat⟩ := h1
  obtain ⟨hh2, _, e2⟩ := h2
  obtain rfl : v1 = .int .i64 at_ := by simpa using e1
  have e2 : [v2] = [u8v by_] := e2
  obtain rfl : v2 = .int .u8 by_.toNat := by simpa [u8v] using e2
  obtain ⟨e, he⟩ : ∃ e, e = entOf x := ⟨_, rfl⟩
  have he1 : e.1 = modN x.1 256 := by rw [he]; rfl
  have he2 : e.2.1 = x.2.1.toNat := by rw [he]; rfl
  have he3 : e.2.2.1 = x.2.2.1.toNat := by rw [he]; rfl
  have he4 : e.2.2.2 = x.2.2.2 := by rw [he]; rfl
  have hm := modN_lt x.1 (show 0 < 256 by decide)
  refine hc_enter (vs := [.agg #[.int .i64 x.1, .int .u32 x.2.1.toNat, .int .u32 x.2.2.1.toNat, .slice A x.2.2.2.length cap], .int .i64 at_, .int .u8 by_.toNat]) Try.func9 rfl _ Try.ntmps9 rfl (Own.start none' W) ?_
  simp only [argSlots, Nat.zero_add]
  refine hc_seq <|
    hc_region <|
    hl_new (on_boxN rfl rfl) rfl rfl rfl fun b3 =>  ?_
  refine hl_val (ov_assign rfl) rfl rfl rfl <|
    hl_nil <|
    hx_then_normal <|
    hc_seq <|
    hc_seq <|
    hc_region <| ?_
  refine hl_val (ov_fieldA rfl) rfl rfl rfl <|
    hl_val (ov_load rfl (CellIs.blk rfl)) rfl rfl rfl <|
    hl_val (by first | exact ov_len rfl | exact ov_lenS rfl) rfl rfl rfl <| ?_
  refine hl_val (ov_gtr rfl rfl) rfl rfl rfl <|
    hl_val (ov_move rfl) rfl rfl rfl <| ?_
  refine hl_part (t := 21) rfl (fun hl => ?_) (fun hl => ?_)
  · refine hl_off rfl rfl rfl rfl rfl rfl <|
      hl_off rfl rfl rfl rfl rfl rfl <|
      hl_val (ov_pickT rfl rfl) rfl rfl rfl <|
      hl_nil <|
      hx_then_normal <|
      hc_cond_true rfl <| ?_
    refine hc_seq <|
      hc_region <| ?_
    refine hl_c Try.call27 rfl rfl (fun w1 H1 => Own.calln H1 fun D' hold hin H2 => wakes_spec D' w1) ?_
    refine hl_val (ov_assign rfl) rfl rfl rfl <|
      hl_nil <|
      hx_then_normal <|
      hc_ret <|
      hx_then_ret <| ?_
    exact results_1 (.inr rfl) rfl rfl fun w' H' => ⟨rfl, H'.ent (Ent.nil _)⟩
  · refine hl_on rfl rfl <| hl_val (ov_move rfl) rfl rfl rfl <|
      hl_on rfl rfl <| hl_val (ov_eql rfl rfl) rfl rfl rfl <|
      hl_val (ov_pickF rfl rfl) rfl rfl rfl <|
      hl_nil <|
      hx_then_normal <| ?_
    refine hc_cond rfl (fun hl2 => ?_) (fun hl2 => ?_)
    · refine hc_seq <|
        hc_region <| ?_
      refine hl_c Try.call27 rfl rfl (fun w1 H1 => Own.calln H1 fun D' hold hin H2 => wakes_spec D' w1) ?_
      refine hl_val (ov_assign rfl) rfl rfl rfl <|
        hl_nil <|
        hx_then_normal <|
        hc_ret <|
        hx_then_ret <| ?_
      exact results_1 (.inr rfl) rfl rfl fun w' H' => ⟨rfl, H'.ent (Ent.nil _)⟩
    · have hok : okE e := by rw [he]; exact entOf_ok x (by omega)
      have hby : by_ ≠ 0 := fun e => hl2 (by rw [e]; rfl)
      have hel : (encE e).length = needM e.2.2.2.length := encE_len e hok.2.2.2
      have hle : e.2.2.2.length = x.2.2.2.length := by rw [he4]
      rw [← he4] at hx
      rw [← he2, ← he3, ← hle]
      refine hc_skip <|
        hx_then_normal <|
        hc_seq <|
        hc_region <|
        hl_val (ov_fieldA rfl) rfl rfl rfl <|
        hl_val (ov_load rfl (CellIs.blk rfl)) rfl rfl rfl <| ?_
      refine hl_c Try.call14 rfl rfl (fun w1 H1 => Own.calln H1 fun D' hold hin H2 => Mod_nat D' w1 x.1 256 hxi (by decide) (by decide)) ?_
      rw [← he1]
      refine hl_val (ov_fieldA rfl) rfl rfl rfl <| ?_
      refine hl_u0 (on_storeE [.int .i64 e.1, .int .u32 e.2.1, .int .u32 e.2.2.1, .slice A e.2.2.2.length cap] rfl rfl (by simp) rfl rfl) rfl rfl ?_
      refine hl_nil <|
        hx_then_normal <|
        hc_seq <|
        hc_region <|
        hl_val (by first | exact ov_loadW rfl (by simp; done) | exact ov_loadGB rfl rfl) rfl rfl rfl <| ?_
      refine hl_call (σ := Option Addr × Nat) Try.call28 rfl rfl (fun w1 H1 => Own.callx0 H1 fun D' hold hin H2 => Encode_ent D' w1 e hok _ (hold _ hx)) ?_
      intro q
      try rw [List.nil_append]
      refine HL.fact (fun w H => Own.factR q.1 H) ?_
      rintro ⟨_, hqc, _, hqA⟩
      have hpos : 0 < (encE e).length := by rw [hel, needM, if_neg (by have := hok.2.2.2; omega)]; omega
      have hA : isA q.1 := hqA (secs_ne hpos)
      obtain ⟨S, hS⟩ : ∃ S, S = encE e := ⟨_, rfl⟩
      have hSb : S.length ≤ 100 := by rw [hS, hel, needM]; split <;> omega
      have hturn : ∀ i j (hi : i < S.length) (hj : j < 64), ¬ (i = 0 ∧ (j = 10 ∨ j = 11)) → decS (S.set i ((S[i]).set j ((S[i])[j] ^^^ by_))) = none := fun i j hi hj hn => by
        subst hS
        exact turn_none e hok i j hi hj _ (xor_ne _ _ hby) hn
      have hcut : decS (S.take (S.length - 1)) = none := by rw [hS]; exact cut_none e hok
      rw [← hS] at hpos hqc ⊢
      refine hl_val (ov_move rfl) rfl rfl rfl <|
        hl_val (ov_extract rfl rfl) rfl rfl rfl <|
        hl_val (ov_extract rfl rfl) rfl rfl rfl <|
        hl_val (ov_assign rfl) rfl rfl rfl <|
        hl_val (ov_assign rfl) rfl rfl rfl <|
        hl_nil <| ?_
      refine hx_then_normal <|
        hc_seq <|
        hc_seq <|
        hc_region <|
        hl_val (ov_move rfl) rfl rfl rfl <|
        hl_val (ov_neq rfl rfl) rfl rfl rfl <| ?_
      refine hl_val (ov_move rfl) rfl rfl rfl <| ?_
      refine hl_partF (t := 37) rfl ((by simp)) ?_
      refine hl_on rfl rfl <| hl_val (ov_move rfl) rfl rfl rfl <|
        hl_on rfl rfl <| hl_val (by first | exact ov_len rfl | exact ov_lenS rfl) rfl rfl rfl <| ?_
      refine hl_on rfl rfl <| hl_val (ov_eql rfl rfl) rfl rfl rfl <|
        hl_val (ov_pickF rfl rfl) rfl rfl rfl <|
        hl_nil <|
        hx_then_normal <| ?_
      refine hc_cond_F rfl (by omega) ?_
      refine hc_skip <|
        hx_then_normal <|
        hc_seq <|
        hc_region <|
        hl_val (ov_move rfl) rfl rfl rfl <|
        hl_val (ov_move rfl) rfl rfl rfl <| ?_
      refine hl_val (by first | exact ov_len rfl | exact ov_lenS rfl) rfl rfl rfl <| ?_
      refine hl_val (ov_mul (m := ((S.length * 64 : Nat) : Int)) rfl rfl (by rw [wrap_i64 (by omega)]; omega)) rfl rfl rfl ?_
      refine hl_c Try.call14 rfl rfl (fun w1 H1 => Own.calln H1 fun D' hold hin H2 => Mod_nat D' w1 at_ (S.length * 64) hat (by omega) (by omega)) ?_
      have hk := modN_lt at_ (show 0 < S.length * 64 by omega)
      obtain ⟨k, hkk⟩ : ∃ k, modN at_ (S.length * 64) = k := ⟨_, rfl⟩
      rw [hkk] at hk
      rw [hkk]
      refine hl_val (ov_assign rfl) rfl rfl rfl <|
        hl_nil <|
        hx_then_normal <|
        hc_seq <|
        hc_seq <|
        hc_region <| ?_
      refine hl_val (ov_move rfl) rfl rfl rfl <|
        hl_val (ov_eql rfl rfl) rfl rfl rfl <|
        hl_val (ov_move rfl) rfl rfl rfl <| ?_
      refine hl_part (t := 49) rfl (fun h10 => ?_) (fun h10 => ?_)
      · refine hl_off rfl rfl rfl rfl rfl rfl <|
          hl_off rfl rfl rfl rfl rfl rfl <|
          hl_val (ov_pickT rfl rfl) rfl rfl rfl <|
          hl_nil <|
          hx_then_normal <|
          hc_cond_true rfl <| ?_
        refine hc_seq <|
          hc_region <| ?_
        refine hl_c Try.call27 rfl rfl (fun w1 H1 => Own.calln H1 fun D' hold hin H2 => wakes_spec D' w1) ?_
        refine hl_val (ov_assign rfl) rfl rfl rfl <|
          hl_nil <|
          hx_then_normal <|
          hc_ret <|
          hx_then_ret <| ?_
        exact results_1 (.inr rfl) rfl rfl fun w' H' => ⟨rfl, H'.ent (Ent.nil _)⟩
      · refine hl_on rfl rfl <| hl_val (ov_move rfl) rfl rfl rfl <|
          hl_on rfl rfl <| hl_val (ov_eql rfl rfl) rfl rfl rfl <|
          hl_val (ov_pickF rfl rfl) rfl rfl rfl <|
          hl_nil <|
          hx_then_normal <| ?_
        refine hc_cond rfl (fun h11 => ?_) (fun h11 => ?_)
        · refine hc_seq <|
            hc_region <| ?_
          refine hl_c Try.call27 rfl rfl (fun w1 H1 => Own.calln H1 fun D' hold hin H2 => wakes_spec D' w1) ?_
          refine hl_val (ov_assign rfl) rfl rfl rfl <|
            hl_nil <|
            hx_then_normal <|
            hc_ret <|
            hx_then_ret <| ?_
          exact results_1 (.inr rfl) rfl rfl fun w' H' => ⟨rfl, H'.ent (Ent.nil _)⟩
        · have hi : k / 64 < S.length := by omega
          have hj : k % 64 < 64 := by omega
          have hn := hturn (k / 64) (k % 64) hi hj (by omega)
          refine hc_skip <|
            hx_then_normal <|
            hc_seq <|
            hc_region <|
            hl_new (on_buildSliceN rfl rfl rfl) rfl rfl rfl fun b54 =>  ?_
          refine HL.ent (Ent.blk_row 64 0 rfl (by decide)) ?_
          refine hl_val (ov_move rfl) rfl rfl rfl <| ?_
          refine hl_new (on_appendR (A := some ⟨b54, 0, none⟩) (news := S.flatMap secC) rfl rfl (SrcIs.rowR (A := q.1) (fun _ => hA)) (secs_len S) (secs_one _) (by decide) (by omega)) rfl rfl rfl (fun q1 => ?_)
          refine HL.fact (fun w H => Own.factR q1.1 H) ?_
          rintro ⟨_, hqc1, _, hqA1⟩
          have hA1 : isA q1.1 := hqA1 (secs_ne hpos)
          rw [List.nil_append, Nat.zero_add]
          have hc : ∀ {l r : List HProp} {i j : Nat} (hi : i < S.length) (hj : j < 64) [PickR l q1.1 30 64 S.length q1.2 (S.flatMap secC) r], CellIs none' W l (ab q1.1) (ao q1.1 + i * 64 + j * 1) (u8v (S[i])[j]) := fun {l r i j} hi hj [hp : PickR l q1.1 30 64 S.length q1.2 (S.flatMap secC) r] => by
            rw [Nat.mul_one]
            exact CellIs.sec (h := hp) hA1 hi hj
          refine hl_val (ov_assign rfl) rfl rfl rfl <|
            hl_nil <|
            hx_then_normal <|
            hc_seq <| ?_
          refine hc_tail 12 mixed (by kernel_rfl) ?_
          refine ht_val (ov_move rfl) rfl rfl rfl <|
            ht_val (ov_move rfl) rfl rfl rfl <| ?_
          refine ht_val (ov_quo (m := ((k / 64 : Nat) : Int)) rfl rfl (by decide) (by rw [Int.tdiv_eq_ediv_of_nonneg (by omega), show ((k : Int) / 64) = ((k / 64 : Nat) : Int) by omega]; exact wrap_i64 (by omega))) rfl rfl rfl ?_
          refine ht_val (ov_move rfl) rfl rfl rfl <| ?_
          refine ht_val (ov_rem (m := ((k % 64 : Nat) : Int)) rfl rfl (by decide) (by rw [Int.tmod_eq_emod_of_nonneg (by omega)]; omega)) rfl rfl rfl ?_
          refine ht_val (ov_idxS rfl (by assumption) rfl _ rfl (by omega)) rfl rfl rfl <|
            ht_val (ov_idxP rfl rfl _ rfl (by omega)) rfl rfl rfl <| ?_
          refine ht_val (ov_load rfl (hc (i := k / 64) (j := k % 64) hi hj)) rfl rfl rfl ?_
          refine ht_val (ov_move rfl) rfl rfl rfl <| ?_
          refine ht_val (ov_xor_u8 (a := (S[k / 64])[k % 64]) (b := by_) rfl rfl) rfl rfl rfl ?_
          refine ht_val (ov_idxS rfl (by assumption) rfl _ rfl (by omega)) rfl rfl rfl <|
            ht_val (ov_idxP rfl rfl _ rfl (by omega)) rfl rfl rfl <| ?_
          refine ht_nil <| ?_
          obtain ⟨T, hT⟩ : ∃ T, T = S.set (k / 64) ((S[k / 64]).set (k % 64) ((S[k / 64])[k % 64] ^^^ by_)) := ⟨_, rfl⟩
          have hTl : T.length = S.length := by rw [hT, List.length_set]
          refine hl_u0 (on_storeRX (A := q1.1) (k / 64 * 64 + k % 64) (T.flatMap secC) rfl rfl (by rw [Nat.mul_one, Nat.add_assoc]) (by rw [secs_len]; omega) rfl (by rw [hT]; exact flat_set1 secC_len S _ _ _ _ hi hj (secC_set _ _ hj _))) rfl rfl ?_
          rw [← hT] at hn
          refine hl_nil <|
            hx_then_normal <|
            hc_seq <|
            hc_region <|
            hl_val (ov_move rfl) rfl rfl rfl <| ?_
          refine hl_c Try.call30 rfl rfl (fun w1 H1 => Own.calln H1 fun D' hold hin H2 => Decode_none D' w1 _ T hn (hin _ fun h hs ho => rep_row (A := q1.1) hs T hTl.symm (repL_secs.2 rfl))) ?_
          refine hl_val (ov_move rfl) rfl rfl rfl <|
            hl_val (ov_extract rfl rfl) rfl rfl rfl <|
            hl_val (ov_extract rfl rfl) rfl rfl rfl <|
            hl_val (ov_extract rfl rfl) rfl rfl rfl <|
            hl_new (on_alloc) rfl rfl rfl fun b11 => 
            hl_u0 (on_storeGN rfl rfl rfl rfl rfl rfl) rfl rfl <| ?_
          refine hl_val (ov_assign rfl) rfl rfl rfl <|
            hl_val (ov_assign rfl) rfl rfl rfl <|
            hl_nil <|
            hx_then_normal <|
            hc_seq <|
            hc_region <| ?_
          refine hl_val (ov_move rfl) rfl rfl rfl <|
            hl_val (ov_move rfl) rfl rfl rfl <|
            hl_val (by first | exact ov_len rfl | exact ov_lenS rfl) rfl rfl rfl <| ?_
          refine hl_val (ov_sub (m := ((S.length - 1 : Nat) : Int)) rfl rfl (by rw [wrap_i64 (by omega)]; omega)) rfl rfl rfl ?_
          refine hl_val (ov_slice rfl _ _ (.inl ⟨rfl, rfl⟩) (.inr ⟨_, _, rfl, rfl⟩) (by omega) (by omega)) rfl rfl rfl <| ?_
          refine hl_c Try.call30 rfl rfl (fun w1 H1 => Own.calln H1 fun D' hold hin H2 => Decode_none D' w1 _ (S.take (S.length - 1)) hcut (hin _ fun h hs ho => rep_cut (rep_row (A := q.1) hs S rfl (repL_secs.2 rfl)) 0 (S.length - 1) (Nat.zero_le _) (by omega))) ?_
          refine hl_val (ov_move rfl) rfl rfl rfl <|
            hl_val (ov_extract rfl rfl) rfl rfl rfl <|
            hl_val (ov_extract rfl rfl) rfl rfl rfl <|
            hl_val (ov_extract rfl rfl) rfl rfl rfl <|
            hl_new (on_alloc) rfl rfl rfl fun b14 => 
            hl_u0 (on_storeGN rfl rfl rfl rfl rfl rfl) rfl rfl <| ?_
          refine hl_val (ov_assign rfl) rfl rfl rfl <|
            hl_val (ov_assign rfl) rfl rfl rfl <|
            hl_nil <|
            hx_then_normal <|
            hc_seq <|
            hc_region <| ?_
          refine hl_val (ov_move rfl) rfl rfl rfl <|
            hl_val (ov_eql rfl rfl) rfl rfl rfl <|
            hl_val (ov_move rfl) rfl rfl rfl <| ?_
          refine hl_partT (t := 87) rfl (rfl) ?_
          refine hl_on rfl rfl <| hl_val (ov_move rfl) rfl rfl rfl <|
            hl_on rfl rfl <| hl_val (ov_eql rfl rfl) rfl rfl rfl <|
            hl_val (ov_pickT rfl rfl) rfl rfl rfl <|
            hl_val (ov_move rfl) rfl rfl rfl <| ?_
          refine hl_partT (t := 91) rfl (rfl) ?_
          refine hl_on rfl rfl <| hl_val (ov_fieldA rfl) rfl rfl rfl <|
            hl_on rfl rfl <| hl_val (ov_load rfl (CellIs.blk rfl)) rfl rfl rfl <|
            hl_on rfl rfl <| hl_val (by first | exact ov_len rfl | exact ov_lenS rfl) rfl rfl rfl <| ?_
          refine hl_on rfl rfl <| hl_val (ov_eql rfl rfl) rfl rfl rfl <|
            hl_val (ov_pickT rfl rfl) rfl rfl rfl <|
            hl_val (ov_move rfl) rfl rfl rfl <| ?_
          refine hl_partT (t := 97) rfl (rfl) ?_
          refine hl_on rfl rfl <| hl_val (ov_move rfl) rfl rfl rfl <|
            hl_on rfl rfl <| hl_val (ov_eql rfl rfl) rfl rfl rfl <|
            hl_val (ov_pickT rfl rfl) rfl rfl rfl <|
            hl_val (ov_move rfl) rfl rfl rfl <| ?_
          refine hl_partT (t := 101) rfl (rfl) ?_
          refine hl_on rfl rfl <| hl_c Try.call27 rfl rfl (fun w1 H1 => Own.calln H1 fun D' hold hin H2 => wakes_spec D' w1) ?_
          refine hl_val (ov_pickT rfl rfl) rfl rfl rfl <|
            hl_val (ov_assign rfl) rfl rfl rfl <|
            hl_nil <|
            hx_then_normal <|
            hc_ret <| ?_
          exact results_1 (.inr rfl) rfl rfl fun w' H' => ⟨rfl, H'.ent (Ent.nil _)⟩
end Go.Proofs.Ytnnhopjnpplfcaa
