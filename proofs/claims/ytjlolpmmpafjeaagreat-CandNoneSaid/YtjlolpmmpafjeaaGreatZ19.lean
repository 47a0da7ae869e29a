import Derived.Test.YtjlolpmmpafjeaaGreatZ17
import Derived.Test.YtjlolpmmpafjeaaGreatZ18
set_option linter.unusedVariables false
set_option linter.unusedSimpArgs false
namespace Go.Proofs.YtjlolpmmpafjeaaGreat
open Slk
/-! ### Journals on a disk (plain) -/
def entsF (ep : Nat) : Nat → Nat → List Sec → List (List UInt8) × Nat
  | 0, _, _ => ([], 0)
  | f + 1, seq, l => match decS l with
    | none => ([], 0)
    | some (e, n) => if e.1 = 1 ∧ e.2.1 = ep ∧ e.2.2.1 = seq then (e.2.2.2 :: (entsF ep f (seq + 1) (l.drop n)).1, n + (entsF ep f (seq + 1) (l.drop n)).2) else ([], 0)
abbrev jouE (ep seq : Nat) (xs : List UInt8) : EntT := (1, ep, seq, xs)
def jencS (ep : Nat) : Nat → List (List UInt8) → List Sec
  | _, [] => []
  | seq, x :: r => encE (jouE ep seq x) ++ jencS ep (seq + 1) r
theorem jenc_snoc (ep : Nat) (xss : List (List UInt8)) : ∀ (seq : Nat) (x : List UInt8), jencS ep seq (xss ++ [x]) = jencS ep seq xss ++ encE (jouE ep (seq + xss.length) x) := by
  induction xss with
  | nil => intro seq x; simp [jencS]
  | cons y r ih =>
    intro seq x
    rw [List.cons_append, jencS, ih (seq + 1) x, jencS, List.append_assoc]
    rw [List.length_cons, show seq + (r.length + 1) = seq + 1 + r.length by omega]
theorem ents_enc (ep : Nat) (hep : ep < 4294967296) : ∀ (xss : List (List UInt8)) (f seq : Nat) (rest : List Sec), xss.length ≤ f → seq + xss.length < 4294967296 → (∀ x ∈ xss, x.length ≤ 4000) →
    entsF ep f seq (jencS ep seq xss ++ rest) = (xss ++ (entsF ep (f - xss.length) (seq + xss.length) rest).1, (jencS ep seq xss).length + (entsF ep (f - xss.length) (seq + xss.length) rest).2)
  | [], f, seq, rest, _, _, _ => by simp [jencS]
  | x :: r, 0, seq, rest, h, _, _ => by simp at h
  | x :: r, f + 1, seq, rest, h, hs, hx => by
    rw [List.length_cons] at h hs
    have hok : okE (jouE ep seq x) := ⟨show 1 < 256 by decide, hep, show seq < _ by omega, hx x (by simp)⟩
    have hl := encE_len (jouE ep seq x) (hx x (by simp))
    have ih := ents_enc ep hep r f (seq + 1) rest (by omega) (by omega) (fun y hy => hx y (by simp [hy]))
    rw [jencS, List.append_assoc, entsF, decS_enc _ hok]
    dsimp only
    rw [if_pos ⟨rfl, rfl, rfl⟩, List.drop_left' hl, ih]
    rw [List.length_append, hl, List.length_cons, show f + 1 - (r.length + 1) = f - r.length by omega, show seq + (r.length + 1) = seq + 1 + r.length by omega]
    simp only [List.cons_append, Prod.mk.injEq, true_and]
    omega
/-! ### What begins an entry of an epoch -/
def headOf (ep : Nat) (s : Sec) : Prop := s[0] = 87 ∧ numAt s 2 4 = ep
def noHead (ep : Nat) (l : List Sec) : Prop := ∀ s ∈ l, ¬ headOf ep s
theorem decS_head {s : Sec} {r : List Sec} {e : EntT} {n : Nat} (h : decS (s :: r) = some (e, n)) : headOf e.2.1 s ∧ 1 ≤ n ∧ n ≤ (s :: r).length := by
  have h' : (if s[0].toNat = 87 ∧ needM (numAt s 10 2) ≠ 0 ∧ needM (numAt s 10 2) ≤ (s :: r).length ∧ encE (candE (s :: r) s) = (s :: r).take (needM (numAt s 10 2)) then some (candE (s :: r) s, needM (numAt s 10 2)) else none) = some (e, n) := h
  by_cases hh : s[0].toNat = 87 ∧ needM (numAt s 10 2) ≠ 0 ∧ needM (numAt s 10 2) ≤ (s :: r).length ∧ encE (candE (s :: r) s) = (s :: r).take (needM (numAt s 10 2))
  · rw [if_pos hh] at h'
    injection h' with h'
    injection h' with h1 h2
    subst h1; subst h2
    exact ⟨⟨UInt8.toNat_inj.1 hh.1, rfl⟩, by omega, hh.2.2.1⟩
  · rw [if_neg hh] at h'; cases h'
theorem ents_none {ep : Nat} {l : List Sec} (h : ∀ s, l[0]? = some s → ¬ headOf ep s) (f seq : Nat) : entsF ep f seq l = ([], 0) := by
  cases f with
  | zero => rfl
  | succ f =>
    rw [entsF]
    cases l with
    | nil => rfl
    | cons s r =>
      rcases hd : decS (s :: r) with _ | ⟨e, n⟩
      · rfl
      · dsimp only
        rw [if_neg]
        rintro ⟨_, h2, _⟩
        have := (decS_head hd).1
        rw [h2] at this
        exact h s rfl this
theorem encE_nth' (e : EntT) (i : Nat) (h : i < (encE e).length) : (encE e)[i] = secOf (fullB e.1 e.2.1 e.2.2.1 e.2.2.2) i := by
  have : (encE e)[i]? = some (secOf (fullB e.1 e.2.1 e.2.2.1 e.2.2.2) i) := by
    unfold encE encS secsTo
    rw [List.getElem?_map, List.getElem?_range (by simpa [encE, encS, secsTo] using h)]; rfl
  rw [List.getElem?_eq_getElem h] at this
  simpa using this
theorem enc_mark (e : EntT) (i : Nat) (h : i < (encE e).length) : (encE e)[i][0] = if i = 0 then 87 else 119 := by
  rw [encE_nth' e i h, secOf_mark]; rfl
theorem enc_pos (e : EntT) : 1 ≤ (encE e).length := by
  rw [encE, encS_len, fullB_length]; omega
theorem enc_epoch (e : EntT) (h2 : e.2.1 < 4294967296) : numAt ((encE e)[0]'(enc_pos e)) 2 4 = e.2.1 := by
  rw [encE_nth' e 0 (enc_pos e)]
  obtain ⟨t, ht⟩ := head_list e
  unfold numAt; rw [ht]
  exact numB_four _ h2
theorem noHead_enc {ep : Nat} (e : EntT) (h2 : e.2.1 < 4294967296) (h : e.2.1 ≠ ep) : noHead ep (encE e) := by
  intro s hs ⟨h87, hep⟩
  obtain ⟨i, hi, rfl⟩ := List.mem_iff_getElem.1 hs
  rw [enc_mark e i hi] at h87
  by_cases h0 : i = 0
  · subst h0
    rw [enc_epoch e h2] at hep
    exact h hep
  · rw [if_neg h0] at h87
    exact absurd h87 (by decide)
theorem noHead_zero {ep n : Nat} : noHead ep (List.replicate n zeroSec) := by
  intro s hs ⟨h87, _⟩
  obtain ⟨_, rfl⟩ := List.mem_replicate.1 hs
  exact absurd h87 (by decide)
theorem noHead_app {ep : Nat} {a b : List Sec} : noHead ep (a ++ b) ↔ noHead ep a ∧ noHead ep b := by
  unfold noHead
  constructor
  · exact fun h => ⟨fun s hs => h s (List.mem_append.2 (.inl hs)), fun s hs => h s (List.mem_append.2 (.inr hs))⟩
  · rintro ⟨h1, h2⟩ s hs
    rcases List.mem_append.1 hs with h | h
    · exact h1 s h
    · exact h2 s h
theorem noHead_sub {ep : Nat} {a b : List Sec} (h : noHead ep b) (hs : ∀ s ∈ a, s ∈ b) : noHead ep a := fun s m => h s (hs s m)
theorem noHead_put {ep at_ : Nat} {S l : List Sec} (h : noHead ep S) (hl : noHead ep l) : noHead ep (putS S at_ l) := by
  unfold putS
  rw [noHead_app, noHead_app]
  exact ⟨⟨noHead_sub h fun s m => List.mem_of_mem_take m, hl⟩, noHead_sub h fun s m => List.mem_of_mem_drop m⟩
structure JI (T : List Sec) (ep : Nat) (L : List (List UInt8)) (k : Nat) : Prop where
  kle : k ≤ T.length
  eq : T.take k = jencS ep 0 L
  small : ∀ x ∈ L, x.length ≤ 4000
  rest : noHead ep (T.drop k)
theorem jenc_ge (ep : Nat) : ∀ (L : List (List UInt8)) (seq : Nat), L.length ≤ (jencS ep seq L).length
  | [], _ => Nat.le_refl _
  | x :: r, seq => by
    rw [jencS, List.length_append, List.length_cons]
    have := jenc_ge ep r (seq + 1)
    have := enc_pos (jouE ep seq x)
    omega
section
variable {T : List Sec} {ep k : Nat} {L : List (List UInt8)}
theorem JI.len (h : JI T ep L k) : (jencS ep 0 L).length = k := by rw [← h.eq, List.length_take, Nat.min_eq_left h.kle]
theorem JI.many (h : JI T ep L k) : L.length ≤ k := by have := jenc_ge ep L 0; rw [h.len] at this; exact this
theorem JI.open (h : JI T ep L k) (hep : ep < 4294967296) (hT : T.length < 4294967296) : entsF ep T.length 0 T = (L, k) := by
  have hm := h.many
  have hk := h.kle
  have e := ents_enc ep hep L T.length 0 (T.drop k) (by omega) (by omega) h.small
  rw [← h.eq, List.take_append_drop] at e
  rw [e, ents_none (fun s hs => h.rest s (List.mem_of_getElem? hs)), List.append_nil, h.eq, h.len]; rfl
theorem JI.append (h : JI T ep L k) {x : List UInt8} (hx : x.length ≤ 4000) {e : EntT} (he : e = jouE ep L.length x) (hl : k + (encE e).length ≤ T.length) : JI (putS T k (encE e)) ep (L ++ [x]) (k + (encE e).length) := by
  have hk := h.kle
  have hlen : (T.take k ++ encE e).length = k + (encE e).length := by rw [List.length_append, List.length_take, Nat.min_eq_left hk]
  refine ⟨by rw [putS_len hl]; exact hl, ?_, ?_, ?_⟩
  · unfold putS
    rw [List.take_left' hlen, jenc_snoc, h.eq, he, Nat.zero_add]
  · intro y hy
    rcases List.mem_append.1 hy with hy | hy
    · exact h.small y hy
    · obtain rfl := List.mem_singleton.1 hy; exact hx
  · unfold putS
    rw [List.drop_left' hlen]
    refine noHead_sub h.rest fun s m => ?_
    rw [← List.drop_drop] at m
    exact List.mem_of_mem_drop m
theorem JI.begin (h : noHead ep T) : JI T ep [] 0 := ⟨Nat.zero_le _, by rw [List.take_zero]; rfl, (fun x hx => by cases hx), h⟩
end
end Go.Proofs.YtjlolpmmpafjeaaGreat
set_option linter.unusedVariables false
set_option linter.unusedSimpArgs false
namespace Go.Proofs.YtjlolpmmpafjeaaGreat
open Slk
abbrev fndL (y : EntT × Nat) (f : Nat) (q : Option Addr × Nat) : List HProp := [blk f 223 [.int .i64 y.1.1, .int .u32 y.1.2.1, .int .u32 y.1.2.2.1, .slice q.1 y.1.2.2.2.length q.2, .int .i64 (y.2 : Int)], row q.1 5 1 y.1.2.2.2.length q.2 (y.1.2.2.2.map u8v)]
def fndO (b : Option (EntT × Nat)) (f : Nat) (q : Option Addr × Nat) : List HProp := match b with
  | none => []
  | some y => fndL y f q
def fndP (b : Option (EntT × Nat)) (f : Nat) : Value := match b with
  | none => .pointer none
  | some _ => .pointer (some ⟨f, 0, none⟩)
set_option maxHeartbeats 1000000 in
theorem look_spec (D : Nat → Prop) (w : World) (g pb : Nat) (S : List Sec) (hS : 32 ≤ S.length) (HP : Old D w (blk pb 3 [.int .i64 0, .int .i64 16])) (H : Own D w w [dsk g S []]) :
    Calls Tryz.prog 143 #[.pointer (some ⟨g, 0, none⟩), .slice (some ⟨pb, 0, none⟩) 2 2] w fun e w' => ∃ s : Nat × Option Addr × Nat, e = .returned (fndP (newS S) s.1) ∧ Own D w w' (dsk g S [] :: fndO (newS S) s.1 s.2) := by
  have hcell : ∀ (j : Nat) (hj : j < 2) l, CellIs D w l pb (0 + j * 1) (.int .i64 ((16 * j : Nat) : Int)) := fun j hj l => by
    rw [Nat.mul_one]
    refine (CellsAre.old (Old.blk HP)).cell (i := j) ?_
    rcases (show j = 0 ∨ j = 1 by omega) with rfl | rfl <;> rfl
  refine hc_enter (vs := [.pointer (some ⟨g, 0, none⟩), .slice (some ⟨pb, 0, none⟩) 2 2]) Tryz.func143 rfl _ Tryz.ntmps143 rfl H ?_
  simp only [argSlots, Nat.zero_add]
  refine hc_seq <| hc_region <| hl_v (ov_assign rfl) rfl <| hl_nil <| hx_then_normal <| hc_seq <| ?_
  refine hc_region <| hl_v (ov_assign rfl) rfl <| hl_nil <| hx_then_normal <| hc_seq <| hc_seq <| ?_
  refine hc_region <| hl_v (ov_move rfl) rfl <| hl_v (by first | exact ov_len rfl | exact ov_lenS rfl) rfl <| ?_
  refine hl_v (ov_move rfl) rfl <| hl_nil <| hx_then_normal <| hc_block <| ?_
  refine hc_loopK2 (σ := Nat × Option (EntT × Nat) × Nat × Option Addr × Nat) [0, 15, 16] rfl 17 (fun s => .int .i64 (s.1 : Int)) 5 (fun s => fndP s.2.1 s.2.2.1) (fun s => [stars (fndO s.2.1 s.2.2.1 s.2.2.2), dsk g S []]) (fun s => s.1 ≤ 2 ∧ s.2.1 = bestS S s.1) (fun s => 2 - s.1) ((0, none, 0, none, 0)) (⟨by decide, rfl⟩) rfl rfl (Ent.trans (b := [] ++ [dsk g S []]) (by first | assumption | exact Ent.refl _ | exact Ent.nil _ | exact Ent.row_any (Ent.refl _) | (repeat (first | exact Ent.refl _ | exact Ent.nil _ | refine Ent.pick ?_))) (Ent.fold (L := []))) ?_
  rintro ⟨j, b, f, q⟩ hj_ K1 hK1
  dsimp only at hj_ ⊢
  obtain ⟨hj2, hb⟩ := hj_
  refine hc_seq <| hc_region <| hl_v (ov_lss rfl rfl) rfl <| hl_nil <| hx_then_normal <| hc_seq <| ?_
  refine hc_cond rfl (fun h => ?_) (fun h => ?_)
  · have hj : j < 2 := by omega
    have hj1 : j + 1 ≤ 2 := by omega
    have hbs : bestS S (j + 1) = pickS b (16 * j) (lookS S (16 * j)) := by rw [hb]; rfl
    refine hc_skip <| hx_then_normal <| hc_seq <| hc_block <| hc_seq <| hc_region <| ?_
    refine hl_v (ov_idxA rfl rfl j rfl hj) rfl ?_
    refine hl_v (ov_load rfl (hcell j hj _)) rfl ?_
    refine hl_v (ov_assign rfl) rfl <| hl_nil <| hx_then_normal <| hc_seq <| hc_region <| hl_v (ov_assign rfl) rfl <| ?_
    refine hl_nil <| hx_then_normal <| hc_seq <| hc_seq <| hc_region <| hl_v (ov_move rfl) rfl <| ?_
    refine hl_nil <| hx_then_normal <| hc_block <| ?_
    refine hc_loopK2 (σ := Nat × Option Addr × Nat) [0, 5, 7, 15, 16, 17] rfl 21 (fun s => .int .i64 (s.1 : Int)) 8 (fun s => .slice s.2.1 s.1 s.2.2) (fun s => [row s.2.1 61 64 s.1 s.2.2 (((S.drop (16 * j)).take s.1).flatMap secC), dsk g S [], stars (fndO b f q)]) (fun s => s.1 ≤ 16) (fun s => 16 - s.1) ((0, none, 0)) (by decide) rfl rfl (Ent.trans (Ent.nil_row 61 64) (by simp only [List.take_zero, List.flatMap_nil]; exact (by first | assumption | exact Ent.refl _ | exact Ent.nil _ | exact Ent.row_any (Ent.refl _) | (repeat (first | exact Ent.refl _ | exact Ent.nil _ | refine Ent.pick ?_))))) ?_
    rintro ⟨k, ql⟩ hk16 K2 hK2
    dsimp only at hk16 ⊢
    refine hc_seq <| hc_region <| hl_v (ov_lss rfl rfl) rfl <| hl_nil <| hx_then_normal <| hc_seq <| ?_
    refine hc_cond rfl (fun h2 => ?_) (fun h2 => ?_)
    · have hk : k < 16 := by omega
      have hi : 16 * j + k < S.length := by omega
      have hst : (S.drop (16 * j)).take (k + 1) = (S.drop (16 * j)).take k ++ [S[16 * j + k]] := by
        rw [List.take_succ_eq_append_getElem (by rw [List.length_drop]; omega), List.getElem_drop]
      obtain ⟨s, hs⟩ : ∃ s, s = S[16 * j + k] := ⟨_, rfl⟩
      rw [← hs] at hst
      refine hc_skip <| hx_then_normal <| hc_seq <| hc_block <| hc_seq <| hc_region <| ?_
      refine hl_v (ov_move rfl) rfl <| hl_v (ov_assign rfl) rfl <| hl_nil <| hx_then_normal <| hc_seq <| hc_region <| ?_
      refine hl_v (ov_move rfl) rfl <| hl_v (ov_move rfl) rfl <| hl_v (ov_move rfl) rfl <| ?_
      refine hl_v (ov_add (m := ((16 * j + k : Nat) : Int)) rfl rfl ((wrap_i64 (by omega)).trans (by omega))) rfl ?_
      refine hl_c Tryz.call35 rfl rfl (fun w1 H1 => Own.callp (dsk g S []) H1 fun D' hold hin H2 => (Read_ok D' w1 g (16 * j + k) S [] hi H2).mono fun e w' ⟨he, H'⟩ => ⟨show e = Ending.returned (.tuple #[.agg (secC s).toArray, .int .i64 0]) by rw [he, hs]; rfl, H'⟩) ?_
      refine hl_v (ov_move rfl) rfl <| hl_v (ov_extract rfl rfl) rfl <| hl_v (ov_extract rfl rfl) rfl <| hl_new (on_alloc) rfl rfl rfl fun b10 =>  ?_
      refine hl_u0 (on_storeW (vs := secC s) rfl rfl (by simp [secC_len]) (by simp [secC_len]) (secC_one s)) rfl rfl ?_
      refine hl_v (ov_assign rfl) rfl <| hl_nil <| hx_then_normal <| hc_seq <| hc_seq <| hc_region <| ?_
      refine hl_v (ov_move rfl) rfl <| hl_v (ov_neq rfl rfl) rfl <| hl_nil <| hx_then_normal <| ?_
      refine hc_cond_F rfl ((fun h => h rfl)) ?_
      refine hc_skip <| hx_then_normal <| hc_region <| hl_v (ov_move rfl) rfl <| ?_
      refine hl_v (ov_loadW rfl (secC_len s)) rfl ?_
      refine hl_new (on_buildSlice (res := secC s) rfl rfl (fill_sec1 _)) rfl rfl rfl (fun b37 => ?_)
      refine hl_new (on_appendR (A := ql.1) (news := secC s) rfl rfl (SrcIs.blk (b := b37)) (by rw [secC_len]) (secC_one _) (by decide) (by omega)) rfl rfl rfl (fun qm => ?_)
      rw [show ((S.drop (16 * j)).take k).flatMap secC ++ secC s = ((S.drop (16 * j)).take (k + 1)).flatMap secC by rw [hst, List.flatMap_append, List.flatMap_singleton]]
      refine hl_v (ov_assign rfl) rfl <| hl_nil <| hx_block_normal <| hx_then_normal <| hc_region <| hl_v (ov_add rfl rfl (by first | exact wrap_i64 (by omega) | rfl)) rfl <| ?_
      refine hl_v (ov_move rfl) rfl <| hl_nil <| ?_
      refine hx_next hK2 ((k + 1, qm)) (hk) (by omega) (by repeat (first | exact Slots.sub_nil _ | refine Slots.sub_cons rfl ?_)) (by first | assumption | exact Ent.refl _ | exact Ent.nil _ | (repeat (first | exact Ent.refl _ | exact Ent.nil _ | refine Ent.pick ?_)))
    obtain rfl : k = 16 := by omega
    obtain ⟨T, hT⟩ : ∃ T, T = (S.drop (16 * j)).take 16 := ⟨_, rfl⟩
    have hTl : T.length = 16 := by rw [hT, List.length_take, List.length_drop]; omega
    rw [← hT]
    rcases hd : decS T with _ | ⟨x, n⟩
    · have hkeep : b = bestS S (j + 1) := by rw [hbs]; unfold lookS; rw [← hT, hd]; rfl
      refine hc_exit <| hx_then_exit <| hx_then_exit <| hx_block_out <| hx_then_normal <| hc_seq <| ?_
      refine hc_region <| hl_v (ov_move rfl) rfl <| ?_
      refine hl_c Tryz.call79 rfl rfl (fun w1 H1 => Own.calln H1 fun D' hold hin H2 => Decode_none D' w1 _ T hd (hin _ fun h hs ho => rep_row (A := ql.1) hs T hTl.symm (repL_secs.2 rfl))) ?_
      refine hl_v (ov_move rfl) rfl <| hl_v (ov_extract rfl rfl) rfl <| hl_v (ov_extract rfl rfl) rfl <| hl_v (ov_extract rfl rfl) rfl <| hl_new (on_alloc) rfl rfl rfl fun b12 =>  ?_
      refine hl_u0 (on_storeW (vs := [.int .i64 0, .int .u32 0, .int .u32 0, .slice none 0 0]) rfl rfl (by simp) (by simp) (by simp [Value.oneCell'])) rfl rfl ?_
      refine hl_v (ov_assign rfl) rfl <| hl_v (ov_assign rfl) rfl <| hl_nil <| hx_then_normal <| hc_seq <| hc_quiet mixed (by kernel_rfl) <| ?_
      refine hq_v (ov_move rfl) rfl <| hq_v (ov_eql rfl rfl) rfl <| hq_v (ov_move rfl) rfl <| ?_
      refine hq_partF (t := 48) rfl ((by decide)) ?_
      refine hq_off rfl rfl rfl rfl rfl rfl <| hq_off rfl rfl rfl rfl rfl rfl <| hq_off rfl rfl rfl rfl rfl rfl <| hq_v (ov_pickF rfl rfl) rfl <| hq_v (ov_move rfl) rfl <| hq_off rfl rfl rfl rfl rfl rfl <| ?_
      refine hq_off rfl rfl rfl rfl rfl rfl <| hq_off rfl rfl rfl rfl rfl rfl <| hq_v (ov_pickF rfl rfl) rfl <| hq_v (ov_move rfl) rfl <| hq_off rfl rfl rfl rfl rfl rfl <| hq_off rfl rfl rfl rfl rfl rfl <| ?_
      refine hq_off rfl rfl rfl rfl rfl rfl <| hq_offU rfl rfl rfl rfl rfl <| hq_offU rfl rfl rfl rfl rfl <| hq_offU rfl rfl rfl rfl rfl <| hq_offU rfl rfl rfl rfl rfl <| hq_offU rfl rfl rfl rfl rfl <| ?_
      refine hq_offU rfl rfl rfl rfl rfl <| hq_offU rfl rfl rfl rfl rfl <| hq_offU rfl rfl rfl rfl rfl <| hq_off rfl rfl rfl rfl rfl rfl <| hq_v (ov_pickF rfl rfl) rfl <| hq_nil <| ?_
      refine hx_then_normal <| hc_cond_false rfl <| hc_skip <| hx_block_normal <| hx_then_normal <| hc_region <| ?_
      refine hl_v (ov_add rfl rfl (by first | exact wrap_i64 (by omega) | rfl)) rfl <| ?_
      refine hl_v (ov_move rfl) rfl <| hl_nil <| ?_
      refine hx_next hK1 ((j + 1, b, f, q)) (⟨hj1, hkeep⟩) (by omega) (by repeat (first | exact Slots.sub_nil _ | refine Slots.sub_cons rfl ?_)) (by first | assumption | exact Ent.refl _ | exact Ent.nil _ | (repeat (first | exact Ent.refl _ | exact Ent.nil _ | refine Ent.pick ?_)))
    refine hc_exit <| hx_then_exit <| hx_then_exit <| hx_block_out <| hx_then_normal <| hc_seq <| ?_
    refine hc_region <| hl_v (ov_move rfl) rfl <| ?_
    refine hl_call (σ := Option Addr × Nat) Tryz.call79 rfl rfl (fun w1 H1 => Own.callx0 H1 fun D' hold hin H2 => Decode_some D' w1 _ T x n hd (hin _ fun h hs ho => rep_row (A := ql.1) hs T hTl.symm (repL_secs.2 rfl))) ?_
    intro qx
    try rw [List.nil_append]
    refine hl_v (ov_move rfl) rfl <| hl_v (ov_extract rfl rfl) rfl <| hl_v (ov_extract rfl rfl) rfl <| hl_v (ov_extract rfl rfl) rfl <| hl_new (on_alloc) rfl rfl rfl fun b12 =>  ?_
    refine hl_u0 (on_storeW (vs := entV x qx) rfl rfl (by simp [entV]) (by simp [entV]) (by simp [entV, Value.oneCell'])) rfl rfl ?_
    have hlk : lookS S (16 * j) = if x.1 = 2 ∧ x.2.2.1 = 0 then some x else none := by unfold lookS; rw [← hT, hd]
    refine hl_v (ov_assign rfl) rfl <| hl_v (ov_assign rfl) rfl <| hl_nil <| hx_then_normal <| hc_seq <| ?_
    rcases b with _ | y
    · dsimp only [fndP]
      refine hc_quiet mixed (by kernel_rfl) <| hq_v (ov_move rfl) rfl <| hq_v (ov_eql rfl rfl) rfl <| hq_v (ov_move rfl) rfl <| ?_
      refine hq_partT (t := 48) rfl (rfl) ?_
      refine hq_on rfl rfl <| hq_v (ov_fieldA rfl) rfl <| hq_on rfl rfl <| hq_v (ov_load rfl (CellIs.blk rfl)) rfl <| hq_on rfl rfl <| hq_v (ov_eql rfl rfl) rfl <| hq_v (ov_pickT rfl rfl) rfl <| hq_v (ov_move rfl) rfl <| ?_
      refine hq_part (t := 53) rfl (fun c1 => ?_) (fun c1 => ?_)
      · have c1 : x.1 = 2 := by omega
        refine hq_on rfl rfl <| hq_v (ov_fieldA rfl) rfl <| hq_on rfl rfl <| hq_v (ov_load rfl (CellIs.blk rfl)) rfl <| hq_on rfl rfl <| hq_v (ov_eql rfl rfl) rfl <| hq_v (ov_pickT rfl rfl) rfl <| hq_v (ov_move rfl) rfl <| ?_
        refine hq_part (t := 58) rfl (fun c2 => ?_) (fun c2 => ?_)
        · have c2 : x.2.2.1 = 0 := by omega
          rw [hlk, if_pos ⟨c1, c2⟩] at hbs
          have hnew : some (x, 16 * j) = bestS S (j + 1) := hbs.symm
          refine hq_on rfl rfl <| hq_v (ov_move rfl) rfl <| hq_on rfl rfl <| hq_v (ov_eqlP rfl rfl) rfl <| hq_on rfl rfl <| hq_v (ov_move rfl) rfl <| ?_
          refine hq_off rfl rfl rfl rfl rfl rfl <| hq_off rfl rfl rfl rfl rfl rfl <| hq_off rfl rfl rfl rfl rfl rfl <| hq_off rfl rfl rfl rfl rfl rfl <| hq_off rfl rfl rfl rfl rfl rfl <| hq_off rfl rfl rfl rfl rfl rfl <| ?_
          refine hq_off rfl rfl rfl rfl rfl rfl <| hq_off rfl rfl rfl rfl rfl rfl <| hq_on rfl rfl <| hq_v (ov_pickT rfl rfl) rfl <| hq_v (ov_pickT rfl rfl) rfl <| hq_nil <| hx_then_normal <| ?_
          refine hc_cond_true rfl <| hc_region <| hl_v (by first | exact ov_loadW rfl (by simp; done) | exact ov_loadGB rfl rfl) rfl <| ?_
          refine hl_v (ov_move rfl) rfl <| hl_v (ov_buildSN rfl rfl) rfl <| ?_
          refine hl_new (on_boxN rfl rfl) rfl rfl rfl fun b75 =>  ?_
          refine hl_v (ov_assign rfl) rfl <| hl_nil <| hx_block_normal <| hx_then_normal <| hc_region <| hl_v (ov_add rfl rfl (by first | exact wrap_i64 (by omega) | rfl)) rfl <| ?_
          refine hl_v (ov_move rfl) rfl <| hl_nil <| ?_
          exact hx_next hK1 ((j + 1, some (x, 16 * j), b75, qx)) (⟨hj1, hnew⟩) (by omega) (by repeat (first | exact Slots.sub_nil _ | refine Slots.sub_cons rfl ?_)) (Ent.trans (b := fndL (x, 16 * j) b75 qx ++ [dsk g S []]) (by first | assumption | exact Ent.refl _ | exact Ent.nil _ | exact Ent.row_any (Ent.refl _) | (repeat (first | exact Ent.refl _ | exact Ent.nil _ | refine Ent.pick ?_))) Ent.fold)
        have hkeep : none = bestS S (j + 1) := by rw [hbs, hlk, if_neg (by omega)]; rfl
        refine hq_off rfl rfl rfl rfl rfl rfl <| hq_off rfl rfl rfl rfl rfl rfl <| hq_off rfl rfl rfl rfl rfl rfl <| hq_offU rfl rfl rfl rfl rfl <| hq_offU rfl rfl rfl rfl rfl <| hq_offU rfl rfl rfl rfl rfl <| ?_
        refine hq_offU rfl rfl rfl rfl rfl <| hq_offU rfl rfl rfl rfl rfl <| hq_offU rfl rfl rfl rfl rfl <| hq_offU rfl rfl rfl rfl rfl <| hq_offU rfl rfl rfl rfl rfl <| hq_off rfl rfl rfl rfl rfl rfl <| ?_
        refine hq_v (ov_pickF rfl rfl) rfl <| hq_nil <| hx_then_normal <| hc_cond_false rfl <| hc_skip <| hx_block_normal <| ?_
        refine hx_then_normal <| hc_region <| hl_v (ov_add rfl rfl (by first | exact wrap_i64 (by omega) | rfl)) rfl <| ?_
        refine hl_v (ov_move rfl) rfl <| hl_nil <| ?_
        exact hx_next hK1 ((j + 1, none, f, q)) (⟨hj1, hkeep⟩) (by omega) (by repeat (first | exact Slots.sub_nil _ | refine Slots.sub_cons rfl ?_)) (Ent.trans (b := [] ++ [dsk g S []]) (by first | assumption | exact Ent.refl _ | exact Ent.nil _ | exact Ent.row_any (Ent.refl _) | (repeat (first | exact Ent.refl _ | exact Ent.nil _ | refine Ent.pick ?_))) (Ent.fold (L := [])))
      have hkeep : none = bestS S (j + 1) := by rw [hbs, hlk, if_neg (by omega)]; rfl
      refine hq_off rfl rfl rfl rfl rfl rfl <| hq_off rfl rfl rfl rfl rfl rfl <| hq_off rfl rfl rfl rfl rfl rfl <| hq_v (ov_pickF rfl rfl) rfl <| hq_v (ov_move rfl) rfl <| hq_off rfl rfl rfl rfl rfl rfl <| ?_
      refine hq_off rfl rfl rfl rfl rfl rfl <| hq_off rfl rfl rfl rfl rfl rfl <| hq_offU rfl rfl rfl rfl rfl <| hq_offU rfl rfl rfl rfl rfl <| hq_offU rfl rfl rfl rfl rfl <| hq_offU rfl rfl rfl rfl rfl <| ?_
      refine hq_offU rfl rfl rfl rfl rfl <| hq_offU rfl rfl rfl rfl rfl <| hq_offU rfl rfl rfl rfl rfl <| hq_offU rfl rfl rfl rfl rfl <| hq_off rfl rfl rfl rfl rfl rfl <| hq_v (ov_pickF rfl rfl) rfl <| ?_
      refine hq_nil <| hx_then_normal <| hc_cond_false rfl <| hc_skip <| hx_block_normal <| hx_then_normal <| ?_
      refine hc_region <| hl_v (ov_add rfl rfl (by first | exact wrap_i64 (by omega) | rfl)) rfl <| ?_
      refine hl_v (ov_move rfl) rfl <| hl_nil <| ?_
      exact hx_next hK1 ((j + 1, none, f, q)) (⟨hj1, hkeep⟩) (by omega) (by repeat (first | exact Slots.sub_nil _ | refine Slots.sub_cons rfl ?_)) (Ent.trans (b := [] ++ [dsk g S []]) (by first | assumption | exact Ent.refl _ | exact Ent.nil _ | exact Ent.row_any (Ent.refl _) | (repeat (first | exact Ent.refl _ | exact Ent.nil _ | refine Ent.pick ?_))) (Ent.fold (L := [])))
    dsimp only [fndP, fndO]
    refine HC.ent (Ent.trans (b := stars (fndL y f q) :: [dsk g S [], blk b12 172 (entV x qx), row qx.1 5 1 x.2.2.2.length qx.2 (x.2.2.2.map u8v)]) (by first | assumption | exact Ent.refl _ | exact Ent.nil _ | exact Ent.row_any (Ent.refl _) | (repeat (first | exact Ent.refl _ | exact Ent.nil _ | refine Ent.pick ?_))) Ent.flat) ?_
    refine hc_quiet mixed (by kernel_rfl) <| hq_v (ov_move rfl) rfl <| hq_v (ov_eql rfl rfl) rfl <| hq_v (ov_move rfl) rfl <| ?_
    refine hq_partT (t := 48) rfl (rfl) ?_
    refine hq_on rfl rfl <| hq_v (ov_fieldA rfl) rfl <| hq_on rfl rfl <| hq_v (ov_load rfl (CellIs.blk rfl)) rfl <| hq_on rfl rfl <| hq_v (ov_eql rfl rfl) rfl <| hq_v (ov_pickT rfl rfl) rfl <| hq_v (ov_move rfl) rfl <| ?_
    refine hq_part (t := 53) rfl (fun c1 => ?_) (fun c1 => ?_)
    · have c1 : x.1 = 2 := by omega
      refine hq_on rfl rfl <| hq_v (ov_fieldA rfl) rfl <| hq_on rfl rfl <| hq_v (ov_load rfl (CellIs.blk rfl)) rfl <| hq_on rfl rfl <| hq_v (ov_eql rfl rfl) rfl <| hq_v (ov_pickT rfl rfl) rfl <| hq_v (ov_move rfl) rfl <| ?_
      refine hq_part (t := 58) rfl (fun c2 => ?_) (fun c2 => ?_)
      · have c2 : x.2.2.1 = 0 := by omega
        rw [hlk, if_pos ⟨c1, c2⟩] at hbs
        have hbs : bestS S (j + 1) = if y.1.2.1 < x.2.1 then some (x, 16 * j) else some y := hbs
        refine hq_on rfl rfl <| hq_v (ov_move rfl) rfl <| hq_on rfl rfl <| hq_v (ov_eqlP rfl rfl) rfl <| hq_on rfl rfl <| hq_v (ov_move rfl) rfl <| ?_
        refine hq_on rfl rfl <| hq_v (ov_fieldA rfl) rfl <| hq_on rfl rfl <| hq_v (ov_load rfl (CellIs.blk rfl)) rfl <| hq_on rfl rfl <| hq_v (ov_move rfl) rfl <| hq_on rfl rfl <| hq_v (ov_nil rfl) rfl <| hq_on rfl rfl <| hq_v (ov_fieldA rfl) rfl <| hq_on rfl rfl <| hq_v (ov_fieldA rfl) rfl <| ?_
        refine hq_on rfl rfl <| hq_v (ov_load rfl (CellIs.blk rfl)) rfl <| hq_on rfl rfl <| hq_v (ov_gtr rfl rfl) rfl <| hq_on rfl rfl <| hq_v (ov_pickF rfl rfl) rfl <| hq_v (ov_pickT rfl rfl) rfl <| hq_nil <| hx_then_normal <| ?_
        refine hc_cond rfl (fun c3 => ?_) (fun c3 => ?_)
        · have hnew : some (x, 16 * j) = bestS S (j + 1) := by rw [hbs, if_pos (by omega)]
          refine hc_region <| hl_v (by first | exact ov_loadW rfl (by simp; done) | exact ov_loadGB rfl rfl) rfl <| ?_
          refine hl_v (ov_move rfl) rfl <| hl_v (ov_buildSN rfl rfl) rfl <| ?_
          refine hl_new (on_boxN rfl rfl) rfl rfl rfl fun b75 =>  ?_
          refine hl_v (ov_assign rfl) rfl <| hl_nil <| hx_block_normal <| hx_then_normal <| hc_region <| hl_v (ov_add rfl rfl (by first | exact wrap_i64 (by omega) | rfl)) rfl <| ?_
          refine hl_v (ov_move rfl) rfl <| hl_nil <| ?_
          exact hx_next hK1 ((j + 1, some (x, 16 * j), b75, qx)) (⟨hj1, hnew⟩) (by omega) (by repeat (first | exact Slots.sub_nil _ | refine Slots.sub_cons rfl ?_)) (Ent.trans (b := fndL (x, 16 * j) b75 qx ++ [dsk g S []]) (by first | assumption | exact Ent.refl _ | exact Ent.nil _ | exact Ent.row_any (Ent.refl _) | (repeat (first | exact Ent.refl _ | exact Ent.nil _ | refine Ent.pick ?_))) Ent.fold)
        have hkeep : some y = bestS S (j + 1) := by rw [hbs, if_neg (by omega)]
        refine hc_skip <| hx_block_normal <| hx_then_normal <| hc_region <| hl_v (ov_add rfl rfl (by first | exact wrap_i64 (by omega) | rfl)) rfl <| ?_
        refine hl_v (ov_move rfl) rfl <| hl_nil <| ?_
        exact hx_next hK1 ((j + 1, some y, f, q)) (⟨hj1, hkeep⟩) (by omega) (by repeat (first | exact Slots.sub_nil _ | refine Slots.sub_cons rfl ?_)) (Ent.trans (b := fndL y f q ++ [dsk g S []]) (by first | assumption | exact Ent.refl _ | exact Ent.nil _ | exact Ent.row_any (Ent.refl _) | (repeat (first | exact Ent.refl _ | exact Ent.nil _ | refine Ent.pick ?_))) Ent.fold)
      have hkeep : some y = bestS S (j + 1) := by rw [hbs, hlk, if_neg (by omega)]; rfl
      refine hq_off rfl rfl rfl rfl rfl rfl <| hq_off rfl rfl rfl rfl rfl rfl <| hq_off rfl rfl rfl rfl rfl rfl <| hq_offU rfl rfl rfl rfl rfl <| hq_offU rfl rfl rfl rfl rfl <| hq_offU rfl rfl rfl rfl rfl <| ?_
      refine hq_offU rfl rfl rfl rfl rfl <| hq_offU rfl rfl rfl rfl rfl <| hq_offU rfl rfl rfl rfl rfl <| hq_offU rfl rfl rfl rfl rfl <| hq_offU rfl rfl rfl rfl rfl <| hq_off rfl rfl rfl rfl rfl rfl <| ?_
      refine hq_v (ov_pickF rfl rfl) rfl <| hq_nil <| hx_then_normal <| hc_cond_false rfl <| hc_skip <| hx_block_normal <| ?_
      refine hx_then_normal <| hc_region <| hl_v (ov_add rfl rfl (by first | exact wrap_i64 (by omega) | rfl)) rfl <| ?_
      refine hl_v (ov_move rfl) rfl <| hl_nil <| ?_
      exact hx_next hK1 ((j + 1, some y, f, q)) (⟨hj1, hkeep⟩) (by omega) (by repeat (first | exact Slots.sub_nil _ | refine Slots.sub_cons rfl ?_)) (Ent.trans (b := fndL y f q ++ [dsk g S []]) (by first | assumption | exact Ent.refl _ | exact Ent.nil _ | exact Ent.row_any (Ent.refl _) | (repeat (first | exact Ent.refl _ | exact Ent.nil _ | refine Ent.pick ?_))) Ent.fold)
    have hkeep : some y = bestS S (j + 1) := by rw [hbs, hlk, if_neg (by omega)]; rfl
    refine hq_off rfl rfl rfl rfl rfl rfl <| hq_off rfl rfl rfl rfl rfl rfl <| hq_off rfl rfl rfl rfl rfl rfl <| hq_v (ov_pickF rfl rfl) rfl <| hq_v (ov_move rfl) rfl <| hq_off rfl rfl rfl rfl rfl rfl <| ?_
    refine hq_off rfl rfl rfl rfl rfl rfl <| hq_off rfl rfl rfl rfl rfl rfl <| hq_offU rfl rfl rfl rfl rfl <| hq_offU rfl rfl rfl rfl rfl <| hq_offU rfl rfl rfl rfl rfl <| hq_offU rfl rfl rfl rfl rfl <| ?_
    refine hq_offU rfl rfl rfl rfl rfl <| hq_offU rfl rfl rfl rfl rfl <| hq_offU rfl rfl rfl rfl rfl <| hq_offU rfl rfl rfl rfl rfl <| hq_off rfl rfl rfl rfl rfl rfl <| hq_v (ov_pickF rfl rfl) rfl <| ?_
    refine hq_nil <| hx_then_normal <| hc_cond_false rfl <| hc_skip <| hx_block_normal <| hx_then_normal <| ?_
    refine hc_region <| hl_v (ov_add rfl rfl (by first | exact wrap_i64 (by omega) | rfl)) rfl <| ?_
    refine hl_v (ov_move rfl) rfl <| hl_nil <| ?_
    exact hx_next hK1 ((j + 1, some y, f, q)) (⟨hj1, hkeep⟩) (by omega) (by repeat (first | exact Slots.sub_nil _ | refine Slots.sub_cons rfl ?_)) (Ent.trans (b := fndL y f q ++ [dsk g S []]) (by first | assumption | exact Ent.refl _ | exact Ent.nil _ | exact Ent.row_any (Ent.refl _) | (repeat (first | exact Ent.refl _ | exact Ent.nil _ | refine Ent.pick ?_))) Ent.fold)
  obtain rfl : j = 2 := by omega
  refine hc_exit <| hx_then_exit <| hx_then_exit <| hx_block_out <| hx_then_normal <| hc_seq <| ?_
  refine hc_region <| hl_v (ov_move rfl) rfl <| hl_v (ov_assign rfl) rfl <| hl_nil <| hx_then_normal <| hc_ret <| ?_
  exact results_1 (.inr rfl) rfl rfl fun w' H' => ⟨(f, q), by rw [hb]; rfl, H'.ent (Ent.trans (b := stars (fndO (newS S) f q) :: [dsk g S []]) (by rw [hb]; exact (by first | assumption | exact Ent.refl _ | exact Ent.nil _ | exact Ent.row_any (Ent.refl _) | (repeat (first | exact Ent.refl _ | exact Ent.nil _ | refine Ent.pick ?_)))) (Ent.trans Ent.flat (Ent.perm List.perm_append_comm)))⟩
end Go.Proofs.YtjlolpmmpafjeaaGreat
set_option linter.unusedVariables false
set_option linter.unusedSimpArgs false
namespace Go.Proofs.YtjlolpmmpafjeaaGreat
open Slk
theorem newest_spec (D : Nat → Prop) (w : World) (g : Nat) (S : List Sec) (hS : 32 ≤ S.length) (H : Own D w w [dsk g S []]) :
    Calls Tryz.prog 112 #[.pointer (some ⟨g, 0, none⟩)] w fun e w' => ∃ s : Nat × Option Addr × Nat, e = .returned (fndP (newS S) s.1) ∧ Own D w w' (dsk g S [] :: fndO (newS S) s.1 s.2) := by
  refine hc_enter (vs := [.pointer (some ⟨g, 0, none⟩)]) Tryz.func112 rfl _ Tryz.ntmps112 rfl H ?_
  simp only [argSlots, Nat.zero_add]
  refine hc_seq <| hc_region <| hl_v (ov_assign rfl) rfl <| hl_nil <| hx_then_normal <| hc_seq <| ?_
  refine hc_region <| hl_v (ov_move rfl) rfl <| hl_new (on_buildSliceN rfl rfl rfl) rfl rfl rfl fun b4 =>  ?_
  refine hl_call (σ := Nat × Option Addr × Nat) Tryz.call143 rfl rfl (fun w1 H1 => Own.callpx (dsk g S []) H1 fun D' hold hin H2 => look_spec D' w1 g b4 S hS (hin _ fun h hs _ => stars_blk hs) H2) ?_
  intro s
  refine hl_v (ov_assign rfl) rfl <| hl_nil <| hx_then_normal <| hc_ret <| ?_
  exact results_1 (.inr rfl) rfl rfl fun w' H' => ⟨s, rfl, H'.ent (Ent.trans (b := dsk g S [] :: fndO (newS S) s.1 s.2 ++ [blk b4 3 [.int .i64 0, .int .i64 16]]) (fun _ h => h) Ent.append_l)⟩
def loadE (S : List Sec) : Nat × List UInt8 × Int := match newS S with
  | none => (0, [], 13)
  | some y => (y.1.2.1, y.1.2.2.2, 0)
theorem Load_spec (D : Nat → Prop) (w : World) (g : Nat) (S : List Sec) (hS : 32 ≤ S.length) (H : Own D w w [dsk g S []]) :
    Calls Tryz.prog 73 #[.pointer (some ⟨g, 0, none⟩)] w fun e w' => ∃ q : Option Addr × Nat, e = .returned (.tuple #[.int .u32 (loadE S).1, .slice q.1 (loadE S).2.1.length q.2, .int .i64 (loadE S).2.2]) ∧ Own D w w' [dsk g S [], row q.1 5 1 (loadE S).2.1.length q.2 ((loadE S).2.1.map u8v)] := by
  refine hc_enter (vs := [.pointer (some ⟨g, 0, none⟩)]) Tryz.func73 rfl _ Tryz.ntmps73 rfl H ?_
  simp only [argSlots, Nat.zero_add]
  refine hc_seq <| hc_region <| hl_v (ov_assign rfl) rfl <| hl_v (ov_assign rfl) rfl <| hl_v (ov_assign rfl) rfl <| hl_nil <| ?_
  refine hx_then_normal <| hc_seq <| hc_seq <| hc_region <| hl_v (ov_move rfl) rfl <| ?_
  refine hl_c Tryz.call44 rfl rfl (fun w1 H1 => Own.callp (dsk g S []) H1 fun D' hold hin H2 => Len_spec D' w1 g S [] H2) ?_
  refine hl_v (ov_lss rfl rfl) rfl <| hl_nil <| hx_then_normal <| ?_
  refine hc_cond_F rfl ((by omega)) ?_
  refine hc_skip <| hx_then_normal <| hc_seq <| hc_region <| hl_v (ov_move rfl) rfl <| ?_
  refine hl_call (σ := Nat × Option Addr × Nat) Tryz.call112 rfl rfl (fun w1 H1 => Own.callpx (dsk g S []) H1 fun D' hold hin H2 => newest_spec D' w1 g S hS H2) ?_
  intro s
  obtain ⟨f, q⟩ := s
  unfold loadE
  rcases hn : newS S with _ | y
  · dsimp only [fndP, fndO]
    refine hl_v (ov_assign rfl) rfl <| hl_nil <| hx_then_normal <| hc_seq <| hc_seq <| hc_region <| ?_
    refine hl_v (ov_move rfl) rfl <| hl_v (ov_eqlP rfl rfl) rfl <| hl_nil <| hx_then_normal <| ?_
    refine hc_cond_true rfl ?_
    refine hc_seq <| hc_region <| hl_v (ov_assign rfl) rfl <| hl_v (ov_assign rfl) rfl <| hl_v (ov_assign rfl) rfl <| hl_nil <| ?_
    refine hx_then_normal <| hc_ret <| hx_then_ret <| ?_
    exact results_3 (.inr rfl) rfl rfl rfl rfl fun w' H' => ⟨(none, 0), rfl, H'.ent (Ent.trans (b := dsk g S [] :: []) (by first | assumption | exact Ent.refl _ | exact Ent.nil _ | exact Ent.row_any (Ent.refl _) | (repeat (first | exact Ent.refl _ | exact Ent.nil _ | refine Ent.pick ?_))) (Ent.cons (Ent.nil_row 5 1)))⟩
  dsimp only [fndP, fndO]
  refine hl_v (ov_assign rfl) rfl <| hl_nil <| hx_then_normal <| hc_seq <| hc_seq <| hc_region <| ?_
  refine hl_v (ov_move rfl) rfl <| hl_v (ov_eqlP rfl rfl) rfl <| hl_nil <| hx_then_normal <| ?_
  refine hc_cond_false rfl ?_
  refine hc_skip <| hx_then_normal <| hc_seq <| hc_quiet mixed (by kernel_rfl) <| hq_v (ov_move rfl) rfl <| hq_v (ov_nil rfl) rfl <| ?_
  refine hq_v (ov_fieldA rfl) rfl <| hq_v (ov_fieldA rfl) rfl <| hq_v (ov_load rfl (CellIs.blk rfl)) rfl <| hq_v (ov_move rfl) rfl <| hq_v (ov_nil rfl) rfl <| hq_v (ov_fieldA rfl) rfl <| ?_
  refine hq_v (ov_fieldA rfl) rfl <| hq_v (ov_load rfl (CellIs.blk rfl)) rfl <| hq_v (ov_assign rfl) rfl <| hq_v (ov_assign rfl) rfl <| hq_v (ov_assign rfl) rfl <| hq_nil <| ?_
  refine hx_then_normal <| hc_ret <| ?_
  exact results_3 (.inr rfl) rfl rfl rfl rfl fun w' H' => ⟨q, rfl, H'.ent (by first | assumption | exact Ent.refl _ | exact Ent.nil _ | exact Ent.row_any (Ent.refl _) | (repeat (first | exact Ent.refl _ | exact Ent.nil _ | refine Ent.pick ?_)))⟩
end Go.Proofs.YtjlolpmmpafjeaaGreat
