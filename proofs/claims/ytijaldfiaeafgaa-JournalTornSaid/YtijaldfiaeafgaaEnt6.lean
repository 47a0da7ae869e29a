import Derived.Test.YtijaldfiaeafgaaEnt5
set_option linter.unusedVariables false
set_option linter.unusedSimpArgs false
namespace Go.Proofs.Ytijaldfiaeafgaa
open Slk
/-! ### What Decode finds -/
def numAt (s : Sec) (lo m : Nat) : Nat := numB ((s.toList.drop lo).take m)
theorem numAt_lt2 (s : Sec) (lo : Nat) (h : lo + 2 ≤ 64) : numAt s lo 2 < 65536 := by
  have hl : ((s.toList.drop lo).take 2).length = 2 := by simp; omega
  have := numB_lt ((s.toList.drop lo).take 2) 2 (by omega)
  rw [List.take_of_length_le (by omega)] at this
  exact this
theorem numAt_lt4 (s : Sec) (lo : Nat) (h : lo + 4 ≤ 64) : numAt s lo 4 < 4294967296 := by
  have hl : ((s.toList.drop lo).take 4).length = 4 := by simp; omega
  have := numB_lt ((s.toList.drop lo).take 4) 4 (by omega)
  rw [List.take_of_length_le (by omega)] at this
  exact this
def bodyS (S : List Sec) : List UInt8 := S.flatMap (fun s => s.toList.drop 1)
theorem bodyS_length (S : List Sec) : (bodyS S).length = 63 * S.length := by
  induction S with
  | nil => rfl
  | cons s r ih =>
    unfold bodyS at ih ⊢
    rw [List.flatMap_cons, List.length_append, ih, List.length_cons]; simp; omega
abbrev EntT := Nat × Nat × Nat × List UInt8
def encE (e : EntT) : List Sec := encS (fullB e.1 e.2.1 e.2.2.1 e.2.2.2)
def candE (S : List Sec) (s : Sec) : EntT := (s[1].toNat, numAt s 2 4, numAt s 6 4, ((bodyS (S.take (needM (numAt s 10 2)))).drop 11).take (numAt s 10 2))
def decS : List Sec → Option (EntT × Nat)
  | [] => none
  | s :: r => if s[0].toNat = 87 ∧ needM (numAt s 10 2) ≠ 0 ∧ needM (numAt s 10 2) ≤ (s :: r).length ∧ encE (candE (s :: r) s) = (s :: r).take (needM (numAt s 10 2)) then some (candE (s :: r) s, needM (numAt s 10 2)) else none
theorem SrcIs.blkAt {D : Nat → Prop} {w0 : World} {l : List HProp} {b : Nat} {t : TypeId} {cs : List Value} {r : List HProp} [h : PickB l b t cs r] (off : Nat) {news : List Value} (hn : ∀ i v, news[i]? = some v → cs[off + i]? = some v) : SrcIs D w0 l (some ⟨b, off, none⟩) news :=
  ⟨fun _ => rfl, fun _ => show CellsAre D w0 l b off news from CellsAre.blk hn⟩
theorem ov_sliceR {P : Program} {D : Nat → Prop} {w0 : World} {env : Slots} {l : List HProp} {dst : Option Tmp} {ty : TypeId} {pos : String} {after : Array Edge} {g : Option (Nat × Bool)} {t e : TypeId} {s bb : Nat} {z : List Value} [h : TySlice P t e] [hs : TyI P e s bb z] {x : Operand} {ol oh : Option Operand} {A : Option Addr} {n cap : Nat} (hx : evalO env x = some (.slice A n cap)) (lo hi : Nat)
    (hl : (ol = none ∧ lo = 0) ∨ ∃ o k, ol = some o ∧ evalO env o = some (.int k lo)) (hh : (oh = none ∧ hi = n) ∨ ∃ o k, oh = some o ∧ evalO env o = some (.int k hi)) (h1 : lo ≤ hi) (h2 : hi ≤ cap) {R : Value} (hR : Value.slice (if cap = lo then A else A.map (·.add (lo * s))) (hi - lo) (cap - lo) = R) :
    OpVal P D w0 env l ⟨dst, .slice t x ol oh none, ty, pos, after, g⟩ R := hR ▸ ov_slice hx lo hi hl hh h1 h2
/-- Some bytes of a sector of old memory, as a slice. -/
theorem old_sec_bytes {D : Nat → Prop} {w : World} {S : List Sec} {A : Option Addr} (HR : Old D w (rdA A (S.flatMap secC))) {i lo m cap : Nat} (hi : i < S.length) (h : lo + m ≤ 64) (h0 : 0 < m) (hc : m ≤ cap) (hc2 : cap ≤ 9223372036854775807) {A' : Option Addr} (hA' : A' = some ⟨ab A, ao A + i * 64 + lo, none⟩) :
    Old D w (Rep.rep ((S[i].toList.drop lo).take m) [.slice A' m cap]) := by
  have hl : ((S[i].toList.drop lo).take m).length = m := by simp; omega
  refine HR.imp fun x hx => ⟨A', cap, by rw [hl], by rw [hl]; exact hc, hc2, _, repL_bytes.2 rfl, ?_⟩
  have hat : ∀ j v, (((S[i].toList.drop lo).take m).map u8v)[j]? = some v → (S.flatMap secC)[i * 64 + (lo + j)]? = some v := fun j v hv => by
    have hj : j < m := by
      rcases Nat.lt_or_ge j m with h | h
      · exact h
      · rw [List.getElem?_eq_none (by simp; omega)] at hv; cases hv
    rw [flat_at secC_len S i (lo + j) hi (by omega)]
    rw [List.getElem?_map, List.getElem?_take_of_lt hj, List.getElem?_drop] at hv
    unfold secC
    rw [List.getElem?_map]; exact hv
  rcases hx with hx | ⟨b, off, t, cs0, fr, rfl, h1, h2⟩
  · have := hat 0 (u8v (S[i][lo]'(by omega))) (by
      rw [List.getElem?_map, List.getElem?_take_of_lt h0, List.getElem?_drop, Vector.getElem?_toList, Vector.getElem?_eq_getElem (by omega)]; rfl)
    rw [hx] at this; simp at this
  refine .inr ⟨b, off + i * 64 + lo, t, cs0, fr, hA', h1, fun j v hv => ?_⟩
  have := h2 _ _ (hat j v hv)
  rw [show off + i * 64 + lo + j = off + (i * 64 + (lo + j)) by omega]
  exact this
theorem number_at (D : Nat → Prop) (w : World) {s : Sec} {r : List Sec} {A : Option Addr} (HR : Old D w (rdA A ((s :: r).flatMap secC))) (lo m cap N : Nat) (hN : numAt s lo m = N) (h : lo + m ≤ 64) (h0 : 0 < m) (hm : m ≤ 4) (hc : m ≤ cap) (hc2 : cap ≤ 9223372036854775807) {A' : Option Addr} (hA' : A' = some ⟨ab A, ao A + 0 * 64 + lo, none⟩) :
    Calls Try.prog 68 #[.slice A' m cap] w fun e w' => e = .returned (.int .u32 (N : Int)) ∧ Own D w w' [] :=
  hN ▸ number_spec D w _ ((s.toList.drop lo).take m) (by simp; omega) (old_sec_bytes HR (i := 0) (by simp) h h0 hc hc2 hA')
def DecPost (D : Nat → Prop) (w : World) (S : List Sec) (e : Ending) (w' : World) : Prop :=
  (decS S = none ∧ e = .returned (.tuple #[.agg #[.int .i64 0, .int .u32 0, .int .u32 0, .slice none 0 0], .int .i64 0, .int .i64 11]) ∧ Own D w w' []) ∨
  (∃ (x : EntT) (n : Nat) (q : Option Addr × Nat), decS S = some (x, n) ∧ e = .returned (.tuple #[.agg #[.int .i64 x.1, .int .u32 x.2.1, .int .u32 x.2.2.1, .slice q.1 x.2.2.2.length q.2], .int .i64 n, .int .i64 0]) ∧ Own D w w' [row q.1 5 1 x.2.2.2.length q.2 (x.2.2.2.map u8v)])
theorem Decode_spec (D : Nat → Prop) (w : World) (v : Value) (S : List Sec) (HA : Old D w (Rep.rep S [v])) :
    Calls Try.prog 57 #[v] w fun e w' => DecPost D w S e w' := by
  obtain ⟨A, cap, rfl, hA1, hA2, HS, HR⟩ := HA.openS
  cases S with
  | nil =>
    have hno : decS [] = none := rfl
    refine hc_enter (vs := [.slice A ([] : List Sec).length cap]) Try.func57 rfl _ Try.ntmps57 rfl (Own.start D w) ?_
    simp only [argSlots, Nat.zero_add]
    refine hc_seq <| hc_region <| hl_new (on_alloc) rfl rfl rfl fun b2 =>
      hl_v (ov_assign rfl) rfl <| hl_v (ov_assign rfl) rfl <| hl_nil <| ?_
    refine hx_then_normal <| hc_seq <| hc_seq <| hc_region <| hl_v (ov_move rfl) rfl <| hl_v (by first | exact ov_len rfl | exact ov_lenS rfl) rfl <| ?_
    refine hl_v (ov_eql rfl rfl) rfl <| hl_v (ov_move rfl) rfl <| ?_
    refine hl_partT (t := 16) rfl (rfl) ?_
    refine hl_off rfl rfl rfl rfl rfl rfl <| hl_off rfl rfl rfl rfl rfl rfl <| hl_off rfl rfl rfl rfl rfl rfl <| hl_off rfl rfl rfl rfl rfl rfl <| hl_off rfl rfl rfl rfl rfl rfl <| hl_v (ov_pickT rfl rfl) rfl <| ?_
    refine hl_nil <| hx_then_normal <| hc_cond_true rfl <| hc_seq <| hc_region <| hl_v (ov_buildSN rfl rfl) rfl <| ?_
    refine hl_u0 (on_storeGN rfl rfl rfl rfl rfl rfl) rfl rfl <| hl_v (ov_assign rfl) rfl <| hl_v (ov_assign rfl) rfl <| hl_nil <| hx_then_normal <| hc_ret <| ?_
    refine hx_then_ret <| ?_
    exact results_ctt (.inr rfl) rfl rfl (by simp) rfl rfl fun w' H' => .inl ⟨hno, rfl, H'.ent (Ent.nil _)⟩
  | cons s r =>
    have hA := flat_isA HS (k := 0) (by simp)
    have h00 := cell_sec HS (k := 0) (j := 0) (by simp) (by decide)
    have h01 := cell_sec HS (k := 0) (j := 1) (by simp) (by decide)
    simp only [List.getElem_cons_zero] at h00 h01
    have hlen1 : 0 < (s :: r).length := by simp
    have hk1 := s[1].toNat_lt
    have hb10 := numAt_lt2 s 10 (by decide)
    have hb2 := numAt_lt4 s 2 (by decide)
    have hb6 := numAt_lt4 s 6 (by decide)
    obtain ⟨kk, hkk⟩ : ∃ m, m = s[1].toNat := ⟨_, rfl⟩
    obtain ⟨size, hsz⟩ : ∃ m, numAt s 10 2 = m := ⟨_, rfl⟩
    obtain ⟨n, hn⟩ : ∃ m, needM size = m := ⟨_, rfl⟩
    obtain ⟨a, hna⟩ : ∃ m, numAt s 2 4 = m := ⟨_, rfl⟩
    obtain ⟨b, hnb⟩ : ∃ m, numAt s 6 4 = m := ⟨_, rfl⟩
    rw [← hkk] at hk1 h01
    rw [hsz] at hb10
    rw [hna] at hb2
    rw [hnb] at hb6
    have hdec : decS (s :: r) = if s[0].toNat = 87 ∧ n ≠ 0 ∧ n ≤ (s :: r).length ∧ encE (candE (s :: r) s) = (s :: r).take n then some (candE (s :: r) s, n) else none := by
      rw [← hn, ← hsz]; rfl
    have hcand : candE (s :: r) s = (kk, a, b, ((bodyS ((s :: r).take n)).drop 11).take size) := by
      rw [← hn, ← hsz, ← hna, ← hnb, hkk]; rfl
    rw [hcand] at hdec
    refine hc_enter (vs := [.slice A (s :: r).length cap]) Try.func57 rfl _ Try.ntmps57 rfl (Own.start D w) ?_
    simp only [argSlots, Nat.zero_add]
    refine hc_seq <| hc_region <| hl_new (on_alloc) rfl rfl rfl fun b2 =>
      hl_v (ov_assign rfl) rfl <| hl_v (ov_assign rfl) rfl <| hl_nil <| ?_
    refine hx_then_normal <| hc_seq <| hc_seq <| hc_region <| hl_v (ov_move rfl) rfl <| hl_v (by first | exact ov_len rfl | exact ov_lenS rfl) rfl <| ?_
    refine hl_v (ov_eql rfl rfl) rfl <| hl_v (ov_move rfl) rfl <| ?_
    refine hl_partF (t := 16) rfl ((by simp; omega)) ?_
    refine hl_on rfl rfl <| hl_v (ov_move rfl) rfl <| hl_on rfl rfl <| hl_v (ov_idxSc rfl (by assumption) rfl rfl (by omega)) rfl <| hl_on rfl rfl <| hl_v (ov_idxPc rfl rfl rfl rfl rfl) rfl <| ?_
    refine hl_on rfl rfl <| hl_v (ov_load rfl (h00 _)) rfl ?_
    refine hl_on rfl rfl <| hl_v (ov_neq rfl rfl) rfl <| hl_v (ov_pickF rfl rfl) rfl <| hl_nil <| hx_then_normal <| ?_
    refine hc_cond rfl (fun h87 => ?_) (fun h87 => ?_)
    · have hno : decS (s :: r) = none := by rw [hdec, if_neg]; rintro ⟨h, _⟩; omega
      refine hc_seq <| hc_region <| hl_v (ov_buildSN rfl rfl) rfl <| ?_
      refine hl_u0 (on_storeGN rfl rfl rfl rfl rfl rfl) rfl rfl <| hl_v (ov_assign rfl) rfl <| hl_v (ov_assign rfl) rfl <| hl_nil <| hx_then_normal <| hc_ret <| ?_
      refine hx_then_ret <| ?_
      exact results_ctt (.inr rfl) rfl rfl (by simp) rfl rfl fun w' H' => .inl ⟨hno, rfl, H'.ent (Ent.nil _)⟩
    · have h87' : s[0].toNat = 87 := by omega
      refine hc_skip <| hx_then_normal <| hc_seq <| hc_region <| hl_v (ov_move rfl) rfl <| hl_v (ov_idxSc rfl (by assumption) rfl rfl (by omega)) rfl <| ?_
      refine hl_v (ov_sliceP rfl 10 12 (.inr ⟨_, _, rfl, rfl⟩) (.inr ⟨_, _, rfl, rfl⟩) (by decide) (by decide) (by decide)) rfl ?_
      refine hl_c Try.call68 rfl rfl (fun w1 H1 => Own.calln H1 fun D' hold hin H2 => number_at D' w1 (hold _ HR) 10 2 54 size hsz (by decide) (by decide) (by decide) (by decide) (by decide) rfl) ?_
      refine hl_v (ov_conv rfl (by first | exact wrap_i64 (by omega) | rfl)) rfl <| ?_
      refine hl_v (ov_assign rfl) rfl <| hl_nil <| hx_then_normal <| hc_seq <| hc_region <| hl_v (ov_move rfl) rfl <| ?_
      refine hl_c Try.call59 rfl rfl (fun w1 H1 => Own.calln H1 fun D' hold hin H2 => Need_nat D' w1 size n hn) ?_
      refine hl_v (ov_assign rfl) rfl <| hl_nil <| hx_then_normal <| hc_seq <| hc_seq <| hc_region <| ?_
      refine hl_v (ov_move rfl) rfl <| hl_v (ov_eql rfl rfl) rfl <| hl_v (ov_move rfl) rfl <| ?_
      refine hl_part (t := 33) rfl (fun hz => ?_) (fun hz => ?_)
      · have hno : decS (s :: r) = none := by rw [hdec, if_neg]; rintro ⟨_, h, _⟩; omega
        refine hl_off rfl rfl rfl rfl rfl rfl <| hl_off rfl rfl rfl rfl rfl rfl <| hl_off rfl rfl rfl rfl rfl rfl <| hl_off rfl rfl rfl rfl rfl rfl <| hl_v (ov_pickT rfl rfl) rfl <| hl_nil <| ?_
        refine hx_then_normal <| hc_cond_true rfl <| hc_seq <| hc_region <| hl_v (ov_buildSN rfl rfl) rfl <| ?_
        refine hl_u0 (on_storeGN rfl rfl rfl rfl rfl rfl) rfl rfl <| hl_v (ov_assign rfl) rfl <| hl_v (ov_assign rfl) rfl <| hl_nil <| hx_then_normal <| hc_ret <| ?_
        refine hx_then_ret <| ?_
        exact results_ctt (.inr rfl) rfl rfl (by simp) rfl rfl fun w' H' => .inl ⟨hno, rfl, H'.ent (Ent.nil _)⟩
      · refine hl_on rfl rfl <| hl_v (ov_move rfl) rfl <| hl_on rfl rfl <| hl_v (ov_move rfl) rfl <| hl_on rfl rfl <| hl_v (by first | exact ov_len rfl | exact ov_lenS rfl) rfl <| ?_
        refine hl_on rfl rfl <| hl_v (ov_gtr rfl rfl) rfl <| hl_v (ov_pickF rfl rfl) rfl <| hl_nil <| hx_then_normal <| ?_
        refine hc_cond rfl (fun hgt => ?_) (fun hgt => ?_)
        · have hno : decS (s :: r) = none := by rw [hdec, if_neg]; rintro ⟨_, _, h, _⟩; omega
          refine hc_seq <| hc_region <| hl_v (ov_buildSN rfl rfl) rfl <| ?_
          refine hl_u0 (on_storeGN rfl rfl rfl rfl rfl rfl) rfl rfl <| hl_v (ov_assign rfl) rfl <| hl_v (ov_assign rfl) rfl <| hl_nil <| hx_then_normal <| hc_ret <| ?_
          refine hx_then_ret <| ?_
          exact results_ctt (.inr rfl) rfl rfl (by simp) rfl rfl fun w' H' => .inl ⟨hno, rfl, H'.ent (Ent.nil _)⟩
        · have hnl : n ≤ (s :: r).length := by omega
          have hs4 : size ≤ 4000 ∧ n = (size + 77) / 63 := by
            unfold needM at hn
            split at hn <;> omega
          refine hc_skip <| hx_then_normal <| hc_seq <| ?_
          refine hc_cutK1 (σ := Nat) [0, 2, 5, 6] rfl 7 (fun g => .pointer (some ⟨g, 0, none⟩)) (fun g => [blk g 104 [.int .i64 (kk : Int), .int .u32 (a : Int), .int .u32 (b : Int), .slice none 0 0], blk b2 104 [.int .i64 0, .int .u32 0, .int .u32 0, .slice none 0 0]]) (fun K1 hK1 => ?_) (fun g => ?_)
          · refine hc_any [blk b2 104 [.int .i64 0, .int .u32 0, .int .u32 0, .slice none 0 0]] mixed 16 rfl ?_
            refine ha_v 0 rfl (ov_move rfl) rfl <| ?_
            refine ha_v 1 rfl (ov_idxSc rfl (by assumption) rfl rfl (by omega)) rfl <| ?_
            refine ha_v 2 rfl (ov_idxPc rfl rfl rfl rfl rfl) rfl <| ?_
            refine ha_v 5 rfl (ov_move rfl) rfl <| ?_
            refine ha_v 6 rfl (ov_idxSc rfl (by assumption) rfl rfl (by omega)) rfl <| ?_
            refine ha_v 3 rfl (ov_load rfl (h01 _)) rfl ?_
            refine ha_v 4 rfl (ov_conv rfl (by first | exact wrap_i64 (by omega) | rfl)) rfl <| ?_
            refine ha_v 7 rfl (ov_sliceP rfl 2 6 (.inr ⟨_, _, rfl, rfl⟩) (.inr ⟨_, _, rfl, rfl⟩) (by decide) (by decide) (by decide)) rfl ?_
            refine ha_v 9 rfl (ov_move rfl) rfl <| ?_
            refine ha_v 10 rfl (ov_idxSc rfl (by assumption) rfl rfl (by omega)) rfl <| ?_
            refine ha_v 11 rfl (ov_sliceP rfl 6 10 (.inr ⟨_, _, rfl, rfl⟩) (.inr ⟨_, _, rfl, rfl⟩) (by decide) (by decide) (by decide)) rfl ?_
            refine ha_two 8 14 (by kernel_rfl) ?_ ?_
            · skip
              refine ho_k rfl Try.call68 rfl (fun w1 H1 => Own.calln H1 fun D' hold hin H2 => number_at D' w1 (hold _ HR) 2 4 62 a hna (by decide) (by decide) (by decide) (by decide) (by decide) rfl) ?_
              refine ha_two 12 14 (by kernel_rfl) ?_ ?_
              · skip
                refine ho_k rfl Try.call68 rfl (fun w1 H1 => Own.calln H1 fun D' hold hin H2 => number_at D' w1 (hold _ HR) 6 4 58 b hnb (by decide) (by decide) (by decide) (by decide) (by decide) rfl) ?_
                refine ha_v 13 rfl (ov_buildSN rfl rfl) rfl <| ?_
                refine ha_one 14 (by kernel_rfl) <| ?_
                refine ho_n rfl (on_alloc) rfl (fun b7 => ?_)
                refine ha_one 15 (by kernel_rfl) <| ?_
                refine ho_w0 rfl (on_storeW (vs := [.int .i64 (kk : Int), .int .u32 (a : Int), .int .u32 (b : Int), .slice none 0 0]) rfl rfl (by simp) (by simp) (by simp [Value.oneCell'])) rfl ?_
                refine ha_done (by kernel_rfl) <| ?_
                refine hx_cut hK1 (b7) (by repeat (first | exact Slots.sub_nil _ | refine Slots.sub_cons rfl ?_)) (by first | assumption | exact Ent.refl _ | exact Ent.nil _ | (repeat (first | exact Ent.refl _ | exact Ent.nil _ | refine Ent.pick ?_)))
              · skip
                refine ho_n rfl (on_alloc) rfl (fun b7 => ?_)
                refine ha_one 12 (by kernel_rfl) <| ?_
                refine ho_k rfl Try.call68 rfl (fun w1 H1 => Own.calln H1 fun D' hold hin H2 => number_at D' w1 (hold _ HR) 6 4 58 b hnb (by decide) (by decide) (by decide) (by decide) (by decide) rfl) ?_
                refine ha_v 13 rfl (ov_buildSN rfl rfl) rfl <| ?_
                refine ha_one 15 (by kernel_rfl) <| ?_
                refine ho_w0 rfl (on_storeW (vs := [.int .i64 (kk : Int), .int .u32 (a : Int), .int .u32 (b : Int), .slice none 0 0]) rfl rfl (by simp) (by simp) (by simp [Value.oneCell'])) rfl ?_
                refine ha_done (by kernel_rfl) <| ?_
                refine hx_cut hK1 (b7) (by repeat (first | exact Slots.sub_nil _ | refine Slots.sub_cons rfl ?_)) (by first | assumption | exact Ent.refl _ | exact Ent.nil _ | (repeat (first | exact Ent.refl _ | exact Ent.nil _ | refine Ent.pick ?_)))
            · skip
              refine ho_n rfl (on_alloc) rfl (fun b7 => ?_)
              refine ha_one 8 (by kernel_rfl) <| ?_
              refine ho_k rfl Try.call68 rfl (fun w1 H1 => Own.calln H1 fun D' hold hin H2 => number_at D' w1 (hold _ HR) 2 4 62 a hna (by decide) (by decide) (by decide) (by decide) (by decide) rfl) ?_
              refine ha_one 12 (by kernel_rfl) <| ?_
              refine ho_k rfl Try.call68 rfl (fun w1 H1 => Own.calln H1 fun D' hold hin H2 => number_at D' w1 (hold _ HR) 6 4 58 b hnb (by decide) (by decide) (by decide) (by decide) (by decide) rfl) ?_
              refine ha_v 13 rfl (ov_buildSN rfl rfl) rfl <| ?_
              refine ha_one 15 (by kernel_rfl) <| ?_
              refine ho_w0 rfl (on_storeW (vs := [.int .i64 (kk : Int), .int .u32 (a : Int), .int .u32 (b : Int), .slice none 0 0]) rfl rfl (by simp) (by simp) (by simp [Value.oneCell'])) rfl ?_
              refine ha_done (by kernel_rfl) <| ?_
              refine hx_cut hK1 (b7) (by repeat (first | exact Slots.sub_nil _ | refine Slots.sub_cons rfl ?_)) (by first | assumption | exact Ent.refl _ | exact Ent.nil _ | (repeat (first | exact Ent.refl _ | exact Ent.nil _ | refine Ent.pick ?_)))
          · refine hx_then_normal <| hc_seq <| hc_region <| hl_v (ov_assign rfl) rfl <| hl_nil <| hx_then_normal <| ?_
            refine hc_seq <| hc_seq <| hc_region <| hl_v (ov_move rfl) rfl <| hl_v (ov_move rfl) rfl <| ?_
            refine hl_v (ov_sliceR rfl 0 n (.inl ⟨rfl, rfl⟩) (.inr ⟨_, _, rfl, rfl⟩) (Nat.zero_le _) (by omega) (R := .slice A n cap) (by rw [cut_zero]; rfl)) rfl ?_
            refine hl_v (by first | exact ov_len rfl | exact ov_lenS rfl) rfl <| ?_
            refine hl_v (ov_move rfl) rfl <| hl_nil <| hx_then_normal <| hc_block <| ?_
            refine hc_loopK2 (σ := Nat × Nat × List Value × Option Addr × Nat) [0, 2, 5, 6, 7, 56, 57] rfl 58 (fun q => .int .i64 (q.1 : Int)) 8 (fun q => .slice q.2.2.2.1 q.2.1 q.2.2.2.2) (fun q => [row q.2.2.2.1 5 1 q.2.1 q.2.2.2.2 q.2.2.1, blk g 104 [.int .i64 (kk : Int), .int .u32 (a : Int), .int .u32 (b : Int), .slice none 0 0], blk b2 104 [.int .i64 0, .int .u32 0, .int .u32 0, .slice none 0 0]]) (fun q => q.1 ≤ n ∧ q.2.1 = 63 * q.1 ∧ q.2.2.1 = (bodyS ((s :: r).take q.1)).map u8v) (fun q => n - q.1) ((0, 0, [], none, 0)) (⟨Nat.zero_le _, rfl, rfl⟩) rfl rfl (Ent.nil_row _ _) ?_
            rintro ⟨k, m, cs, A2, c2⟩ hj_ K2 hK2
            dsimp only at hj_ ⊢
            obtain ⟨hk, hm, hcs⟩ := hj_
            refine hc_seq <| hc_region <| hl_v (ov_lss rfl rfl) rfl <| hl_nil <| hx_then_normal <| hc_seq <| ?_
            refine hc_cond rfl (fun hlt => ?_) (fun hlt => ?_)
            · have hlt1 : k < n := by omega
              have hlt2 : k < (s :: r).length := by omega
              have hcx := cells_sec HS hlt2
              have hs1 : bodyS ((s :: r).take (k + 1)) = bodyS ((s :: r).take k) ++ ((s :: r)[k]).toList.drop 1 := by
                unfold bodyS
                rw [List.take_succ_eq_append_getElem hlt2, List.flatMap_append, List.flatMap_singleton]
              generalize (s :: r)[k] = x at *
              have hdrop : ∀ i v, ((x.toList.drop 1).map u8v)[i]? = some v → (secC x)[0 + 1 * 1 + i]? = some v := fun i v hv => by
                unfold secC
                rw [List.map_drop, List.getElem?_drop] at hv
                exact hv
              refine hc_skip <| hx_then_normal <| hc_seq <| hc_block <| hc_seq <| hc_region <| ?_
              refine hl_v (ov_idxS rfl (by assumption) rfl _ rfl (by omega)) rfl <| ?_
              refine hl_v (ov_loadG (cs := secC x) rfl (secC_len _) (hcx _)) rfl ?_
              refine hl_new (on_alloc) rfl rfl rfl fun b10 =>  ?_
              refine hl_u0 (on_storeW (vs := secC x) rfl rfl (secC_len _) (by simp) (secC_one _)) rfl rfl ?_
              refine hl_nil <| hx_then_normal <| hc_region <| hl_v (ov_move rfl) rfl <| ?_
              refine hl_v (ov_sliceP rfl 1 64 (.inr ⟨_, _, rfl, rfl⟩) (.inl ⟨rfl, rfl⟩) (by decide) (by decide) (by decide)) rfl ?_
              refine hl_new (on_appendR (A := A2) (news := (x.toList.drop 1).map u8v) rfl rfl (SrcIs.blkAt (b := b10) (0 + 1 * 1) hdrop) (by simp) (u8_one _) (by decide) (by omega)) rfl rfl rfl (fun q2 => ?_)
              refine hl_v (ov_assign rfl) rfl <| hl_nil <| hx_block_normal <| hx_then_normal <| hc_region <| hl_v (ov_add rfl rfl (by first | exact wrap_i64 (by omega) | rfl)) rfl <| ?_
              refine hl_v (ov_move rfl) rfl <| hl_nil <| ?_
              have e1 : m + (64 - 1) = 63 * (k + 1) := by omega
              have e2 : cs ++ (x.toList.drop 1).map u8v = (bodyS ((s :: r).take (k + 1))).map u8v := by rw [hcs, hs1, List.map_append]
              have e3 : n - (k + 1) < n - k := by omega
              refine hx_next hK2 ((k + 1, m + (64 - 1), cs ++ (x.toList.drop 1).map u8v, q2)) (⟨hlt1, e1, e2⟩) (e3) (by repeat (first | exact Slots.sub_nil _ | refine Slots.sub_cons rfl ?_)) (by first | assumption | exact Ent.refl _ | exact Ent.nil _ | (repeat (first | exact Ent.refl _ | exact Ent.nil _ | refine Ent.pick ?_)))
            · have hkn : k = n := by omega
              subst hkn
              refine HC.fact (fun w H => Own.factR A2 H) ?_
              rintro ⟨_, hmc, hcc2, _⟩
              obtain ⟨B, hB⟩ : ∃ B, B = bodyS ((s :: r).take k) := ⟨_, rfl⟩
              have hBl : B.length = m := by rw [hB, bodyS_length, List.length_take, Nat.min_eq_left hnl, hm]
              rw [← hB] at hcs hdec
              obtain ⟨X, hX⟩ : ∃ X, X = (B.drop 11).take (11 + size - 11) := ⟨_, rfl⟩
              have hXl : X.length = size := by rw [hX]; simp; omega
              rw [show (B.drop 11).take size = X by rw [hX]; congr 1; omega] at hdec
              refine hc_exit <| hx_then_exit <| hx_then_exit <| hx_block_out <| hx_then_normal <| hc_seq <| ?_
              refine hc_region <| hl_v (ov_move rfl) rfl <| hl_v (ov_move rfl) rfl <| ?_
              refine hl_v (ov_add (m := ((11 + size : Nat) : Int)) rfl rfl (by rw [wrap_i64 (by omega)]; omega)) rfl ?_
              refine hl_v (ov_slice rfl 11 _ (.inr ⟨_, _, rfl, rfl⟩) (.inr ⟨_, _, rfl, rfl⟩) (by omega) (by omega)) rfl <| ?_
              refine hl_call (σ := Option Addr × Nat) Try.call61 rfl rfl (fun w1 H1 => Own.callx0 H1 fun D' hold hin H2 => Clone_spec D' w1 _ X (by omega) (hin _ fun h hs ho => (by rw [hX]; exact rep_cut (rep_row (A := A2) hs B hBl.symm (repL_bytes.2 hcs)) 11 (11 + size) (by omega) (by omega)))) ?_
              intro q
              try rw [List.nil_append]
              refine hl_v (ov_fieldA rfl) rfl <| ?_
              refine hl_u0 (on_storeE [.int .i64 (kk : Int), .int .u32 (a : Int), .int .u32 (b : Int), .slice q.1 X.length q.2] rfl rfl (by simp) rfl rfl) rfl rfl ?_
              refine hl_nil <| hx_then_normal <| hc_seq <| hc_seq <| hc_region <| hl_v (by first | exact ov_loadW rfl (by simp; done) | exact ov_loadGB rfl rfl) rfl <| ?_
              refine hl_call (σ := Option Addr × Nat) Try.call47 rfl rfl (fun w1 H1 => Own.callx0 H1 fun D' hold hin H2 => Encode_ok D' w1 kk a b _ X (by omega) hb2 hb6 (by omega) (hin _ fun h hs ho => rep_row (A := q.1) hs X rfl (repL_bytes.2 rfl))) ?_
              intro q3
              try rw [List.nil_append]
              have hEl : (encS (fullB kk a b X)).length = (15 + X.length + 62) / 63 := by rw [encS, secsTo_len, fullB_length]
              refine hl_v (ov_move rfl) rfl <| hl_v (ov_extract rfl rfl) rfl <| hl_v (ov_extract rfl rfl) rfl <| hl_v (ov_assign rfl) rfl <| hl_v (ov_assign rfl) rfl <| hl_nil <| ?_
              refine hx_then_normal <| hc_seq <| hc_region <| hl_v (ov_move rfl) rfl <| hl_v (ov_neq rfl rfl) rfl <| hl_v (ov_move rfl) rfl <| ?_
              refine hl_partF (t := 79) rfl ((by simp)) ?_
              refine hl_on rfl rfl <| hl_v (ov_move rfl) rfl <| hl_on rfl rfl <| hl_v (ov_move rfl) rfl <| hl_on rfl rfl <| hl_v (ov_move rfl) rfl <| hl_on rfl rfl <| hl_v (ov_slice rfl _ _ (.inl ⟨rfl, rfl⟩) (.inr ⟨_, _, rfl, rfl⟩) (by omega) (by omega)) rfl <| ?_
              refine hl_on rfl rfl <| hl_c Try.call69 rfl rfl (fun w1 H1 => Own.calln H1 fun D' hold hin H2 => Equal_spec D' w1 _ _ (encS (fullB kk a b X)) (((s :: r).drop 0).take (k - 0)) (hin _ fun h hs ho => rep_row (A := q3.1) hs _ hEl.symm (repL_secs.2 rfl)) (hin _ fun h hs ho => rep_cut (rep_old ho HA) 0 k (Nat.zero_le _) hnl)) ?_
              by_cases heq : encS (fullB kk a b X) = ((s :: r).drop 0).take (k - 0)
              · have hyes : decS (s :: r) = some ((kk, a, b, X), k) := by
                  rw [hdec, if_pos]
                  exact ⟨h87', by omega, hnl, heq⟩
                rw [decide_eq_true heq]
                refine hl_on rfl rfl <| hl_v (ov_not rfl) rfl <| hl_v (ov_pickF rfl rfl) rfl <| hl_nil <| hx_then_normal <| hc_cond_false rfl <| hc_skip <| ?_
                refine hx_then_normal <| hc_seq <| hc_region <| hl_v (by first | exact ov_loadW rfl (by simp; done) | exact ov_loadGB rfl rfl) rfl <| ?_
                refine hl_v (ov_move rfl) rfl <| hl_u0 (on_storeGN rfl rfl rfl rfl rfl rfl) rfl rfl <| hl_v (ov_assign rfl) rfl <| hl_v (ov_assign rfl) rfl <| hl_nil <| hx_then_normal <| ?_
                refine hc_ret <| ?_
                exact results_ctt (.inr rfl) rfl rfl (by simp) rfl rfl fun w' H' => .inr ⟨(kk, a, b, X), k, q, hyes, rfl, H'.ent (by first | assumption | exact Ent.refl _ | exact Ent.nil _ | exact Ent.row_any (Ent.refl _) | (repeat (first | exact Ent.refl _ | exact Ent.nil _ | refine Ent.pick ?_)))⟩
              · have hno : decS (s :: r) = none := by
                  rw [hdec, if_neg]
                  rintro ⟨_, _, _, h⟩
                  exact heq h
                rw [decide_eq_false heq]
                refine hl_on rfl rfl <| hl_v (ov_not rfl) rfl <| hl_v (ov_pickF rfl rfl) rfl <| hl_nil <| hx_then_normal <| hc_cond_true rfl <| hc_seq <| ?_
                refine hc_region <| hl_v (ov_buildSN rfl rfl) rfl <| ?_
                refine hl_u0 (on_storeGN rfl rfl rfl rfl rfl rfl) rfl rfl <| hl_v (ov_assign rfl) rfl <| hl_v (ov_assign rfl) rfl <| hl_nil <| hx_then_normal <| hc_ret <| ?_
                refine hx_then_ret <| ?_
                exact results_ctt (.inr rfl) rfl rfl (by simp) rfl rfl fun w' H' => .inl ⟨hno, rfl, H'.ent (Ent.nil _)⟩
end Go.Proofs.Ytijaldfiaeafgaa
