import Derived.Test.YtjlolpmmpafjeaaGreatW15
import Derived.Test.YtjlolpmmpafjeaaGreatW13
import Derived.Test.YtjlolpmmpafjeaaGreatW14
set_option linter.unusedVariables false
set_option linter.unusedSimpArgs false
namespace Go.Proofs.YtjlolpmmpafjeaaGreat
open Slk
/-! ### What Decode finds -/
def numAt (s : Sec) (lo m : Nat) : Nat := numE ((s.toList.drop lo).take m)
theorem numAt_lt2 (s : Sec) (lo : Nat) (h : lo + 2 ≤ 64) : numAt s lo 2 < 65536 := by
  have hl : ((s.toList.drop lo).take 2).length = 2 := by simp; omega
  have := numE_lt ((s.toList.drop lo).take 2) 2 (by omega)
  rw [List.take_of_length_le (by omega)] at this
  exact this
theorem numAt_lt4 (s : Sec) (lo : Nat) (h : lo + 4 ≤ 64) : numAt s lo 4 < 4294967296 := by
  have hl : ((s.toList.drop lo).take 4).length = 4 := by simp; omega
  have := numE_lt ((s.toList.drop lo).take 4) 4 (by omega)
  rw [List.take_of_length_le (by omega)] at this
  exact this
def bodyS (S : List Sec) : List UInt8 := S.flatMap (fun s => s.toList.drop 1)
theorem bodyS_length (S : List Sec) : (bodyS S).length = 63 * S.length := by
  induction S with
  | nil => rfl
  | cons s r ih =>
    unfold bodyS at ih ⊢
    rw [List.flatMap_cons, List.length_append, ih, List.length_cons]; simp; omega
abbrev EntT := Nat × Nat × Nat × List UInt8
def encE (e : EntT) : List Sec := encS (fullB e.1 e.2.1 e.2.2.1 e.2.2.2)
def candE (S : List Sec) (s : Sec) : EntT := (s[1].toNat, numAt s 2 4, numAt s 6 4, ((bodyS (S.take (needM (numAt s 10 2)))).drop 11).take (numAt s 10 2))
def decS : List Sec → Option (EntT × Nat)
  | [] => none
  | s :: r => if s[0].toNat = 87 ∧ needM (numAt s 10 2) ≠ 0 ∧ needM (numAt s 10 2) ≤ (s :: r).length ∧ encE (candE (s :: r) s) = (s :: r).take (needM (numAt s 10 2)) then some (candE (s :: r) s, needM (numAt s 10 2)) else none
theorem SrcIs.blkAt {D : Nat → Prop} {w0 : World} {l : List HProp} {b : Nat} {t : TypeId} {cs : List Value} {r : List HProp} [h : PickB l b t cs r] (off : Nat) {news : List Value} (hn : ∀ i v, news[i]? = some v → cs[off + i]? = some v) : SrcIs D w0 l (some ⟨b, off, none⟩) news :=
  ⟨fun _ => rfl, fun _ => show CellsAre D w0 l b off news from CellsAre.blk hn⟩
theorem ov_sliceE {P : Program} {D : Nat → Prop} {w0 : World} {env : Slots} {l : List HProp} {dst : Option Tmp} {ty : TypeId} {pos : String} {after : Array Edge} {g : Option (Nat × Bool)} {t e : TypeId} {s bb : Nat} {z : List Value} [h : TySlice P t e] [hs : TyI P e s bb z] {x : Operand} {ol oh : Option Operand} {A : Option Addr} {n cap : Nat} (hx : evalO env x = some (.slice A n cap)) (lo hi : Nat)
    (hl : (ol = none ∧ lo = 0) ∨ ∃ o k, ol = some o ∧ evalO env o = some (.int k lo)) (hh : (oh = none ∧ hi = n) ∨ ∃ o k, oh = some o ∧ evalO env o = some (.int k hi)) (h1 : lo ≤ hi) (h2 : hi ≤ cap) {R : Value} (hR : Value.slice (if cap = lo then A else A.map (·.add (lo * s))) (hi - lo) (cap - lo) = R) :
    OpVal P D w0 env l ⟨dst, .slice t x ol oh none, ty, pos, after, g⟩ R := hR ▸ ov_slice hx lo hi hl hh h1 h2
theorem old_sec_bytes {D : Nat → Prop} {w : World} {S : List Sec} {A : Option Addr} (HR : Old D w (rdA A (S.flatMap secC))) {i lo m cap : Nat} (hi : i < S.length) (h : lo + m ≤ 64) (h0 : 0 < m) (hc : m ≤ cap) (hc2 : cap ≤ 9223372036854775807) {A' : Option Addr} (hA' : A' = some ⟨ab A, ao A + i * 64 + lo, none⟩) :
    Old D w (Rep.rep ((S[i].toList.drop lo).take m) [.slice A' m cap]) := by
  have hl : ((S[i].toList.drop lo).take m).length = m := by simp; omega
  refine HR.imp fun x hx => ⟨A', cap, by rw [hl], by rw [hl]; exact hc, hc2, _, repL_bytes.2 rfl, ?_⟩
  have hat : ∀ j v, (((S[i].toList.drop lo).take m).map u8v)[j]? = some v → (S.flatMap secC)[i * 64 + (lo + j)]? = some v := fun j v hv => by
    have hj : j < m := by
      rcases Nat.lt_or_ge j m with h | h
      · exact h
      · rw [List.getElem?_eq_none (by simp; omega)] at hv; cases hv
    rw [flat_at secC_len S i (lo + j) hi (by omega)]
    rw [List.getElem?_map, List.getElem?_take_of_lt hj, List.getElem?_drop] at hv
    unfold secC
    rw [List.getElem?_map]; exact hv
  rcases hx with hx | ⟨b, off, t, cs0, fr, rfl, h1, h2⟩
  · have := hat 0 (u8v (S[i][lo]'(by omega))) (by
      rw [List.getElem?_map, List.getElem?_take_of_lt h0, List.getElem?_drop, Vector.getElem?_toList, Vector.getElem?_eq_getElem (by omega)]; rfl)
    rw [hx] at this; simp at this
  refine .inr ⟨b, off + i * 64 + lo, t, cs0, fr, hA', h1, fun j v hv => ?_⟩
  have := h2 _ _ (hat j v hv)
  rw [show off + i * 64 + lo + j = off + (i * 64 + (lo + j)) by omega]
  exact this
theorem number_at (D : Nat → Prop) (w : World) {s : Sec} {r : List Sec} {A : Option Addr} (HR : Old D w (rdA A ((s :: r).flatMap secC))) (lo m cap N : Nat) (hN : numAt s lo m = N) (h : lo + m ≤ 64) (h0 : 0 < m) (hm : m ≤ 4) (hc : m ≤ cap) (hc2 : cap ≤ 9223372036854775807) {A' : Option Addr} (hA' : A' = some ⟨ab A, ao A + 0 * 64 + lo, none⟩) :
    Calls Tryz.prog 123 #[.slice A' m cap] w fun e w' => e = .returned (.int .u32 (N : Int)) ∧ Own D w w' [] :=
  hN ▸ number_spec D w _ ((s.toList.drop lo).take m) (by simp; omega) (old_sec_bytes HR (i := 0) (by simp) h h0 hc hc2 hA')
def DecPost (D : Nat → Prop) (w : World) (S : List Sec) (e : Ending) (w' : World) : Prop :=
  (decS S = none ∧ e = .returned (.tuple #[.agg #[.int .i64 0, .int .u32 0, .int .u32 0, .slice none 0 0], .int .i64 0, .int .i64 11]) ∧ Own D w w' []) ∨
  (∃ (x : EntT) (n : Nat) (q : Option Addr × Nat), decS S = some (x, n) ∧ e = .returned (.tuple #[.agg #[.int .i64 x.1, .int .u32 x.2.1, .int .u32 x.2.2.1, .slice q.1 x.2.2.2.length q.2], .int .i64 n, .int .i64 0]) ∧ Own D w w' [row q.1 5 1 x.2.2.2.length q.2 (x.2.2.2.map u8v)])
theorem Decode_spec (D : Nat → Prop) (w : World) (v : Value) (S : List Sec) (HA : Old D w (Rep.rep S [v])) :
    Calls Tryz.prog 79 #[v] w fun e w' => DecPost D w S e w' := by
  obtain ⟨A, cap, rfl, hA1, hA2, HS, HR⟩ := HA.openS
  cases S with
  | nil =>
    have hno : decS [] = none := rfl
    refine hc_enter (vs := [.slice A ([] : List Sec).length cap]) Tryz.func79 rfl _ Tryz.ntmps79 rfl (Own.start D w) ?_
    simp only [argSlots, Nat.zero_add]
    refine zg <| hl_new (on_alloc) rfl rfl rfl fun b2 =>
      hl_v (ov_assign rfl) rfl <| hl_v (ov_assign rfl) rfl <| hl_nil <| ?_
    refine hx_then_normal <| hc_seq <| zg <| hl_v (ov_move rfl) rfl <| hl_v za15 rfl <| ?_
    refine hl_v (ov_eql rfl rfl) rfl <| hl_v (ov_move rfl) rfl <| ?_
    refine hl_partT (t := 16) rfl (rfl) ?_
    refine hl_off rfl rfl rfl rfl rfl rfl <| hl_off rfl rfl rfl rfl rfl rfl <| hl_off rfl rfl rfl rfl rfl rfl <| hl_off rfl rfl rfl rfl rfl rfl <| hl_off rfl rfl rfl rfl rfl rfl <| hl_v (ov_pickT rfl rfl) rfl <| ?_
    refine zn <| hc_cond_true rfl <| zg <| hl_v (ov_buildSN rfl rfl) rfl <| ?_
    refine hl_u0 (on_storeGN rfl rfl rfl rfl rfl rfl) rfl rfl <| hl_v (ov_assign rfl) rfl <| hl_v (ov_assign rfl) rfl <| zn <| hc_ret <| ?_
    refine hx_then_ret <| ?_
    exact results_ctt (.inr rfl) rfl rfl (by simp) rfl rfl fun w' H' => .inl ⟨hno, rfl, H'.ent (Ent.nil _)⟩
  | cons s r =>
    have hA := flat_isA HS (k := 0) (by simp)
    have h00 := cell_sec HS (k := 0) (j := 0) (by simp) (by decide)
    have h01 := cell_sec HS (k := 0) (j := 1) (by simp) (by decide)
    simp only [List.getElem_cons_zero] at h00 h01
    have hlen1 : 0 < (s :: r).length := by simp
    have hk1 := s[1].toNat_lt
    have hb10 := numAt_lt2 s 10 (by decide)
    have hb2 := numAt_lt4 s 2 (by decide)
    have hb6 := numAt_lt4 s 6 (by decide)
    obtain ⟨kk, hkk⟩ : ∃ m, m = s[1].toNat := ⟨_, rfl⟩
    obtain ⟨size, hsz⟩ : ∃ m, numAt s 10 2 = m := ⟨_, rfl⟩
    obtain ⟨n, hn⟩ : ∃ m, needM size = m := ⟨_, rfl⟩
    obtain ⟨a, hna⟩ : ∃ m, numAt s 2 4 = m := ⟨_, rfl⟩
    obtain ⟨b, hnb⟩ : ∃ m, numAt s 6 4 = m := ⟨_, rfl⟩
    rw [← hkk] at hk1 h01
    rw [hsz] at hb10
    rw [hna] at hb2
    rw [hnb] at hb6
    have hdec : decS (s :: r) = if s[0].toNat = 87 ∧ n ≠ 0 ∧ n ≤ (s :: r).length ∧ encE (candE (s :: r) s) = (s :: r).take n then some (candE (s :: r) s, n) else none := by
      rw [← hn, ← hsz]; rfl
    have hcand : candE (s :: r) s = (kk, a, b, ((bodyS ((s :: r).take n)).drop 11).take size) := by
      rw [← hn, ← hsz, ← hna, ← hnb, hkk]; rfl
    rw [hcand] at hdec
    refine hc_enter (vs := [.slice A (s :: r).length cap]) Tryz.func79 rfl _ Tryz.ntmps79 rfl (Own.start D w) ?_
    simp only [argSlots, Nat.zero_add]
    refine zg <| hl_new (on_alloc) rfl rfl rfl fun b2 =>
      hl_v (ov_assign rfl) rfl <| hl_v (ov_assign rfl) rfl <| hl_nil <| ?_
    refine hx_then_normal <| hc_seq <| zg <| hl_v (ov_move rfl) rfl <| hl_v za15 rfl <| ?_
    refine hl_v (ov_eql rfl rfl) rfl <| hl_v (ov_move rfl) rfl <| ?_
    refine hl_partF (t := 16) rfl ((by simp; omega)) ?_
    refine hl_on rfl rfl <| hl_v (ov_move rfl) rfl <| hl_on rfl rfl <| hl_v (ov_idxSc rfl (by assumption) rfl rfl (by omega)) rfl <| hl_on rfl rfl <| hl_v (ov_idxPc rfl rfl rfl rfl rfl) rfl <| ?_
    refine hl_on rfl rfl <| hl_v (ov_load rfl (h00 _)) rfl ?_
    refine hl_on rfl rfl <| hl_v (ov_neq rfl rfl) rfl <| hl_v (ov_pickF rfl rfl) rfl <| zn <| ?_
    refine hc_cond rfl (fun h87 => ?_) (fun h87 => ?_)
    · have hno : decS (s :: r) = none := by rw [hdec, if_neg]; rintro ⟨h, _⟩; omega
      refine zg <| hl_v (ov_buildSN rfl rfl) rfl <| ?_
      refine hl_u0 (on_storeGN rfl rfl rfl rfl rfl rfl) rfl rfl <| hl_v (ov_assign rfl) rfl <| hl_v (ov_assign rfl) rfl <| zn <| hc_ret <| ?_
      refine hx_then_ret <| ?_
      exact results_ctt (.inr rfl) rfl rfl (by simp) rfl rfl fun w' H' => .inl ⟨hno, rfl, H'.ent (Ent.nil _)⟩
    · have h87' : s[0].toNat = 87 := by omega
      refine zk <| zg <| hl_v (ov_move rfl) rfl <| hl_v (ov_idxSc rfl (by assumption) rfl rfl (by omega)) rfl <| ?_
      refine hl_v (ov_sliceP rfl 10 12 (.inr ⟨_, _, rfl, rfl⟩) (.inr ⟨_, _, rfl, rfl⟩) (by decide) (by decide) (by decide)) rfl ?_
      refine hl_c Tryz.call123 rfl rfl (fun w1 H1 => Own.calln H1 fun D' hold hin H2 => number_at D' w1 (hold _ HR) 10 2 54 size hsz (by decide) (by decide) (by decide) (by decide) (by decide) rfl) ?_
      refine hl_v (ov_conv rfl za18) rfl <| ?_
      refine hl_v (ov_assign rfl) rfl <| zn <| zg <| hl_v (ov_move rfl) rfl <| ?_
      refine hl_c Tryz.call97 rfl rfl (fun w1 H1 => Own.calln H1 fun D' hold hin H2 => Need_nat D' w1 size n hn) ?_
      refine hl_v (ov_assign rfl) rfl <| zn <| hc_seq <| zg <| ?_
      refine hl_v (ov_move rfl) rfl <| hl_v (ov_eql rfl rfl) rfl <| hl_v (ov_move rfl) rfl <| ?_
      refine hl_part (t := 33) rfl (fun hz => ?_) (fun hz => ?_)
      · have hno : decS (s :: r) = none := by rw [hdec, if_neg]; rintro ⟨_, h, _⟩; omega
        refine hl_off rfl rfl rfl rfl rfl rfl <| hl_off rfl rfl rfl rfl rfl rfl <| hl_off rfl rfl rfl rfl rfl rfl <| hl_off rfl rfl rfl rfl rfl rfl <| hl_v (ov_pickT rfl rfl) rfl <| hl_nil <| ?_
        refine hx_then_normal <| hc_cond_true rfl <| zg <| hl_v (ov_buildSN rfl rfl) rfl <| ?_
        refine hl_u0 (on_storeGN rfl rfl rfl rfl rfl rfl) rfl rfl <| hl_v (ov_assign rfl) rfl <| hl_v (ov_assign rfl) rfl <| zn <| hc_ret <| ?_
        refine hx_then_ret <| ?_
        exact results_ctt (.inr rfl) rfl rfl (by simp) rfl rfl fun w' H' => .inl ⟨hno, rfl, H'.ent (Ent.nil _)⟩
      · refine hl_on rfl rfl <| hl_v (ov_move rfl) rfl <| hl_on rfl rfl <| hl_v (ov_move rfl) rfl <| hl_on rfl rfl <| hl_v za15 rfl <| ?_
        refine hl_on rfl rfl <| hl_v (ov_gtr rfl rfl) rfl <| hl_v (ov_pickF rfl rfl) rfl <| zn <| ?_
        refine hc_cond rfl (fun hgt => ?_) (fun hgt => ?_)
        · have hno : decS (s :: r) = none := by rw [hdec, if_neg]; rintro ⟨_, _, h, _⟩; omega
          refine zg <| hl_v (ov_buildSN rfl rfl) rfl <| ?_
          refine hl_u0 (on_storeGN rfl rfl rfl rfl rfl rfl) rfl rfl <| hl_v (ov_assign rfl) rfl <| hl_v (ov_assign rfl) rfl <| zn <| hc_ret <| ?_
          refine hx_then_ret <| ?_
          exact results_ctt (.inr rfl) rfl rfl (by simp) rfl rfl fun w' H' => .inl ⟨hno, rfl, H'.ent (Ent.nil _)⟩
        · have hnl : n ≤ (s :: r).length := by omega
          have hs4 : size ≤ 4000 ∧ n = (size + 77) / 63 := by
            unfold needM at hn
            split at hn <;> omega
          refine zk <| hc_seq <| ?_
          refine hc_cutK1 (σ := Nat) [0, 2, 5, 6] rfl 7 (fun g => .pointer (some ⟨g, 0, none⟩)) (fun g => [blk g 172 [.int .i64 (kk : Int), .int .u32 (a : Int), .int .u32 (b : Int), .slice none 0 0], blk b2 172 [.int .i64 0, .int .u32 0, .int .u32 0, .slice none 0 0]]) (fun K1 hK1 => ?_) (fun g => ?_)
          · refine hc_any [blk b2 172 [.int .i64 0, .int .u32 0, .int .u32 0, .slice none 0 0]] mixed 16 rfl ?_
            refine ha_v 0 rfl (ov_move rfl) rfl <| ?_
            refine ha_v 1 rfl (ov_idxSc rfl (by assumption) rfl rfl (by omega)) rfl <| ?_
            refine ha_v 2 rfl (ov_idxPc rfl rfl rfl rfl rfl) rfl <| ?_
            refine ha_v 5 rfl (ov_move rfl) rfl <| ?_
            refine ha_v 6 rfl (ov_idxSc rfl (by assumption) rfl rfl (by omega)) rfl <| ?_
            refine ha_v 3 rfl (ov_load rfl (h01 _)) rfl ?_
            refine ha_v 4 rfl (ov_conv rfl za18) rfl <| ?_
            refine ha_v 7 rfl (ov_sliceP rfl 2 6 (.inr ⟨_, _, rfl, rfl⟩) (.inr ⟨_, _, rfl, rfl⟩) (by decide) (by decide) (by decide)) rfl ?_
            refine ha_v 9 rfl (ov_move rfl) rfl <| ?_
            refine ha_v 10 rfl (ov_idxSc rfl (by assumption) rfl rfl (by omega)) rfl <| ?_
            refine ha_v 11 rfl (ov_sliceP rfl 6 10 (.inr ⟨_, _, rfl, rfl⟩) (.inr ⟨_, _, rfl, rfl⟩) (by decide) (by decide) (by decide)) rfl ?_
            refine ha_two 8 14 (by kernel_rfl) ?_ ?_
            · skip
              refine ho_k rfl Tryz.call123 rfl (fun w1 H1 => Own.calln H1 fun D' hold hin H2 => number_at D' w1 (hold _ HR) 2 4 62 a hna (by decide) (by decide) (by decide) (by decide) (by decide) rfl) ?_
              refine ha_two 12 14 (by kernel_rfl) ?_ ?_
              · skip
                refine ho_k rfl Tryz.call123 rfl (fun w1 H1 => Own.calln H1 fun D' hold hin H2 => number_at D' w1 (hold _ HR) 6 4 58 b hnb (by decide) (by decide) (by decide) (by decide) (by decide) rfl) ?_
                refine ha_v 13 rfl (ov_buildSN rfl rfl) rfl <| ?_
                refine ha_one 14 (by kernel_rfl) <| ?_
                refine ho_n rfl (on_alloc) rfl (fun b7 => ?_)
                refine ha_one 15 (by kernel_rfl) <| ?_
                refine ho_w0 rfl (on_storeW (vs := [.int .i64 (kk : Int), .int .u32 (a : Int), .int .u32 (b : Int), .slice none 0 0]) rfl rfl (by simp) (by simp) za33) rfl ?_
                refine ha_done (by kernel_rfl) <| ?_
                refine hx_cut hK1 (b7) za9 za6
              · skip
                refine ho_n rfl (on_alloc) rfl (fun b7 => ?_)
                refine ha_one 12 (by kernel_rfl) <| ?_
                refine ho_k rfl Tryz.call123 rfl (fun w1 H1 => Own.calln H1 fun D' hold hin H2 => number_at D' w1 (hold _ HR) 6 4 58 b hnb (by decide) (by decide) (by decide) (by decide) (by decide) rfl) ?_
                refine ha_v 13 rfl (ov_buildSN rfl rfl) rfl <| ?_
                refine ha_one 15 (by kernel_rfl) <| ?_
                refine ho_w0 rfl (on_storeW (vs := [.int .i64 (kk : Int), .int .u32 (a : Int), .int .u32 (b : Int), .slice none 0 0]) rfl rfl (by simp) (by simp) za33) rfl ?_
                refine ha_done (by kernel_rfl) <| ?_
                refine hx_cut hK1 (b7) za9 za6
            · skip
              refine ho_n rfl (on_alloc) rfl (fun b7 => ?_)
              refine ha_one 8 (by kernel_rfl) <| ?_
              refine ho_k rfl Tryz.call123 rfl (fun w1 H1 => Own.calln H1 fun D' hold hin H2 => number_at D' w1 (hold _ HR) 2 4 62 a hna (by decide) (by decide) (by decide) (by decide) (by decide) rfl) ?_
              refine ha_one 12 (by kernel_rfl) <| ?_
              refine ho_k rfl Tryz.call123 rfl (fun w1 H1 => Own.calln H1 fun D' hold hin H2 => number_at D' w1 (hold _ HR) 6 4 58 b hnb (by decide) (by decide) (by decide) (by decide) (by decide) rfl) ?_
              refine ha_v 13 rfl (ov_buildSN rfl rfl) rfl <| ?_
              refine ha_one 15 (by kernel_rfl) <| ?_
              refine ho_w0 rfl (on_storeW (vs := [.int .i64 (kk : Int), .int .u32 (a : Int), .int .u32 (b : Int), .slice none 0 0]) rfl rfl (by simp) (by simp) za33) rfl ?_
              refine ha_done (by kernel_rfl) <| ?_
              refine hx_cut hK1 (b7) za9 za6
          · refine hx_then_normal <| zg <| hl_v (ov_assign rfl) rfl <| zn <| ?_
            refine hc_seq <| zg <| hl_v (ov_move rfl) rfl <| hl_v (ov_move rfl) rfl <| ?_
            refine hl_v (ov_sliceE rfl 0 n (.inl ⟨rfl, rfl⟩) (.inr ⟨_, _, rfl, rfl⟩) (Nat.zero_le _) (by omega) (R := .slice A n cap) (by rw [cut_zeroE]; rfl)) rfl ?_
            refine hl_v za15 rfl <| ?_
            refine hl_v (ov_move rfl) rfl <| zn <| hc_block <| ?_
            refine hc_loopK2 (σ := Nat × Nat × List Value × Option Addr × Nat) [0, 2, 5, 6, 7, 56, 57] rfl 58 (fun q => .int .i64 (q.1 : Int)) 8 (fun q => .slice q.2.2.2.1 q.2.1 q.2.2.2.2) (fun q => [row q.2.2.2.1 5 1 q.2.1 q.2.2.2.2 q.2.2.1, blk g 172 [.int .i64 (kk : Int), .int .u32 (a : Int), .int .u32 (b : Int), .slice none 0 0], blk b2 172 [.int .i64 0, .int .u32 0, .int .u32 0, .slice none 0 0]]) (fun q => q.1 ≤ n ∧ q.2.1 = 63 * q.1 ∧ q.2.2.1 = (bodyS ((s :: r).take q.1)).map u8v) (fun q => n - q.1) ((0, 0, [], none, 0)) (⟨Nat.zero_le _, rfl, rfl⟩) rfl rfl (Ent.nil_row _ _) ?_
            rintro ⟨k, m, cs, A2, c2⟩ hj_ K2 hK2
            dsimp only at hj_ ⊢
            obtain ⟨hk, hm, hcs⟩ := hj_
            refine zg <| hl_v (ov_lss rfl rfl) rfl <| zn <| hc_seq <| ?_
            refine hc_cond rfl (fun hlt => ?_) (fun hlt => ?_)
            · have hlt1 : k < n := by omega
              have hlt2 : k < (s :: r).length := by omega
              have hcx := cells_sec HS hlt2
              have hs1 : bodyS ((s :: r).take (k + 1)) = bodyS ((s :: r).take k) ++ ((s :: r)[k]).toList.drop 1 := by
                unfold bodyS
                rw [List.take_succ_eq_append_getElem hlt2, List.flatMap_append, List.flatMap_singleton]
              generalize (s :: r)[k] = x at *
              have hdrop : ∀ i v, ((x.toList.drop 1).map u8v)[i]? = some v → (secC x)[0 + 1 * 1 + i]? = some v := fun i v hv => by
                unfold secC
                rw [List.map_drop, List.getElem?_drop] at hv
                exact hv
              refine zk <| hc_seq <| hc_block <| zg <| ?_
              refine hl_v (ov_idxS rfl (by assumption) rfl _ rfl (by omega)) rfl <| ?_
              refine hl_v (ov_loadG (cs := secC x) rfl (secC_len _) (hcx _)) rfl ?_
              refine hl_new (on_alloc) rfl rfl rfl fun b10 =>  ?_
              refine hl_u0 (on_storeW (vs := secC x) rfl rfl (secC_len _) (by simp) (secC_one _)) rfl rfl ?_
              refine zn <| hc_region <| hl_v (ov_move rfl) rfl <| ?_
              refine hl_v (ov_sliceP rfl 1 64 (.inr ⟨_, _, rfl, rfl⟩) (.inl ⟨rfl, rfl⟩) (by decide) (by decide) (by decide)) rfl ?_
              refine hl_new (on_appendR (A := A2) (news := (x.toList.drop 1).map u8v) rfl rfl (SrcIs.blkAt (b := b10) (0 + 1 * 1) hdrop) (by simp) (u8_one _) (by decide) (by omega)) rfl rfl rfl (fun q2 => ?_)
              refine hl_v (ov_assign rfl) rfl <| hl_nil <| hx_block_normal <| hx_then_normal <| hc_region <| hl_v (ov_add rfl rfl za18) rfl <| ?_
              refine hl_v (ov_move rfl) rfl <| hl_nil <| ?_
              have e1 : m + (64 - 1) = 63 * (k + 1) := by omega
              have e2 : cs ++ (x.toList.drop 1).map u8v = (bodyS ((s :: r).take (k + 1))).map u8v := by rw [hcs, hs1, List.map_append]
              have e3 : n - (k + 1) < n - k := by omega
              refine hx_next hK2 ((k + 1, m + (64 - 1), cs ++ (x.toList.drop 1).map u8v, q2)) (⟨hlt1, e1, e2⟩) (e3) za9 za6
            · have hkn : k = n := by omega
              subst hkn
              refine HC.fact (fun w H => Own.factR A2 H) ?_
              rintro ⟨_, hmc, hcc2, _⟩
              obtain ⟨B, hB⟩ : ∃ B, B = bodyS ((s :: r).take k) := ⟨_, rfl⟩
              have hBl : B.length = m := by rw [hB, bodyS_length, List.length_take, Nat.min_eq_left hnl, hm]
              rw [← hB] at hcs hdec
              obtain ⟨X, hX⟩ : ∃ X, X = (B.drop 11).take (11 + size - 11) := ⟨_, rfl⟩
              have hXl : X.length = size := by rw [hX]; simp; omega
              rw [show (B.drop 11).take size = X by rw [hX]; congr 1; omega] at hdec
              refine hc_exit <| hx_then_exit <| hx_then_exit <| hx_block_out <| hx_then_normal <| hc_seq <| ?_
              refine hc_region <| hl_v (ov_move rfl) rfl <| hl_v (ov_move rfl) rfl <| ?_
              refine hl_v (ov_add (m := ((11 + size : Nat) : Int)) rfl rfl za25) rfl ?_
              refine hl_v (ov_slice rfl 11 _ (.inr ⟨_, _, rfl, rfl⟩) (.inr ⟨_, _, rfl, rfl⟩) (by omega) (by omega)) rfl <| ?_
              refine hl_call (σ := Option Addr × Nat) Tryz.call81 rfl rfl (fun w1 H1 => Own.callx0 H1 fun D' hold hin H2 => Clone_spec D' w1 _ X (by omega) (hin _ fun h hs ho => (by rw [hX]; exact rep_cut (rep_row (A := A2) hs B hBl.symm (repL_bytes.2 hcs)) 11 (11 + size) (by omega) (by omega)))) ?_
              intro q
              try rw [List.nil_append]
              refine hl_v (ov_fieldA rfl) rfl <| ?_
              refine hl_u0 (on_storeE [.int .i64 (kk : Int), .int .u32 (a : Int), .int .u32 (b : Int), .slice q.1 X.length q.2] rfl rfl (by simp) rfl rfl) rfl rfl ?_
              refine zn <| hc_seq <| zg <| hl_v za10 rfl <| ?_
              refine hl_call (σ := Option Addr × Nat) Tryz.call99 rfl rfl (fun w1 H1 => Own.callx0 H1 fun D' hold hin H2 => Encode_ok D' w1 kk a b _ X (by omega) hb2 hb6 (by omega) (hin _ fun h hs ho => rep_row (A := q.1) hs X rfl (repL_bytes.2 rfl))) ?_
              intro q3
              try rw [List.nil_append]
              have hEl : (encS (fullB kk a b X)).length = (15 + X.length + 62) / 63 := by rw [encS, secsTo_len, fullB_length]
              refine hl_v (ov_move rfl) rfl <| hl_v (ov_extract rfl rfl) rfl <| hl_v (ov_extract rfl rfl) rfl <| hl_v (ov_assign rfl) rfl <| hl_v (ov_assign rfl) rfl <| hl_nil <| ?_
              refine hx_then_normal <| zg <| hl_v (ov_move rfl) rfl <| hl_v (ov_neq rfl rfl) rfl <| hl_v (ov_move rfl) rfl <| ?_
              refine hl_partF (t := 79) rfl ((by simp)) ?_
              refine hl_on rfl rfl <| hl_v (ov_move rfl) rfl <| hl_on rfl rfl <| hl_v (ov_move rfl) rfl <| hl_on rfl rfl <| hl_v (ov_move rfl) rfl <| hl_on rfl rfl <| hl_v (ov_slice rfl _ _ (.inl ⟨rfl, rfl⟩) (.inr ⟨_, _, rfl, rfl⟩) (by omega) (by omega)) rfl <| ?_
              refine hl_on rfl rfl <| hl_c Tryz.call124 rfl rfl (fun w1 H1 => Own.calln H1 fun D' hold hin H2 => Equal_spec D' w1 _ _ (encS (fullB kk a b X)) (((s :: r).drop 0).take (k - 0)) (hin _ fun h hs ho => rep_row (A := q3.1) hs _ hEl.symm (repL_secs.2 rfl)) (hin _ fun h hs ho => rep_cut (rep_old ho HA) 0 k (Nat.zero_le _) hnl)) ?_
              by_cases heq : encS (fullB kk a b X) = ((s :: r).drop 0).take (k - 0)
              · have hyes : decS (s :: r) = some ((kk, a, b, X), k) := by
                  rw [hdec, if_pos]
                  exact ⟨h87', by omega, hnl, heq⟩
                rw [decide_eq_true heq]
                refine hl_on rfl rfl <| hl_v (ov_not rfl) rfl <| hl_v (ov_pickF rfl rfl) rfl <| zn <| hc_cond_false rfl <| hc_skip <| ?_
                refine hx_then_normal <| zg <| hl_v za10 rfl <| ?_
                refine hl_v (ov_move rfl) rfl <| hl_u0 (on_storeGN rfl rfl rfl rfl rfl rfl) rfl rfl <| hl_v (ov_assign rfl) rfl <| hl_v (ov_assign rfl) rfl <| zn <| ?_
                refine hc_ret <| ?_
                exact results_ctt (.inr rfl) rfl rfl (by simp) rfl rfl fun w' H' => .inr ⟨(kk, a, b, X), k, q, hyes, rfl, H'.ent za4⟩
              · have hno : decS (s :: r) = none := by
                  rw [hdec, if_neg]
                  rintro ⟨_, _, _, h⟩
                  exact heq h
                rw [decide_eq_false heq]
                refine hl_on rfl rfl <| hl_v (ov_not rfl) rfl <| hl_v (ov_pickF rfl rfl) rfl <| zn <| hc_cond_true rfl <| hc_seq <| ?_
                refine hc_region <| hl_v (ov_buildSN rfl rfl) rfl <| ?_
                refine hl_u0 (on_storeGN rfl rfl rfl rfl rfl rfl) rfl rfl <| hl_v (ov_assign rfl) rfl <| hl_v (ov_assign rfl) rfl <| zn <| hc_ret <| ?_
                refine hx_then_ret <| ?_
                exact results_ctt (.inr rfl) rfl rfl (by simp) rfl rfl fun w' H' => .inl ⟨hno, rfl, H'.ent (Ent.nil _)⟩
end Go.Proofs.YtjlolpmmpafjeaaGreat
set_option linter.unusedVariables false
set_option linter.unusedSimpArgs false
namespace Go.Proofs.YtjlolpmmpafjeaaGreat
open Slk
/-! The sums' law in plain numbers. -/
end Go.Proofs.YtjlolpmmpafjeaaGreat
set_option linter.unusedVariables false
set_option linter.unusedSimpArgs false
namespace Go.Proofs.YtjlolpmmpafjeaaGreat
open Slk
/-! ### Plain facts of entries -/
theorem numB_four (a : Nat) (h : a < 4294967296) : numE (fourB a) = a := by
  simp only [numE, fourB, List.foldl_cons, List.foldl_nil, UInt8.toNat_ofNat']
  omega
theorem numB_two (n : Nat) (h : n < 65536) : numE [UInt8.ofNat (n / 256), UInt8.ofNat n] = n := by
  simp only [numE, List.foldl_cons, List.foldl_nil, UInt8.toNat_ofNat']
  omega
theorem secOf_list (F : List UInt8) (k : Nat) : (secOf F k).toList = markK k :: (piece F k ++ List.replicate (63 - (piece F k).length) 0) := by
  show (secL (markK k) (piece F k)).toArray.toList = _
  simp [secL]
theorem secOf_mark (F : List UInt8) (k : Nat) : (secOf F k)[0] = markK k := by
  have h : (secOf F k).toList[0]? = some (markK k) := by rw [secOf_list]; rfl
  rw [Vector.getElem?_toList, Vector.getElem?_eq_getElem (by decide)] at h
  simpa using h
theorem bodyS_secsTo (F : List UInt8) (k : Nat) : bodyS (secsTo F k) = F.take (63 * k) ++ List.replicate (63 * k - F.length) 0 := by
  induction k with
  | zero => simp [secsTo, bodyS]
  | succ k ih =>
    have h1 : bodyS (secsTo F (k + 1)) = bodyS (secsTo F k) ++ (piece F k ++ List.replicate (63 - (piece F k).length) 0) := by
      rw [secsTo_snoc]
      unfold bodyS
      rw [List.flatMap_append, List.flatMap_singleton, secOf_list]; rfl
    rw [h1, ih, piece_length]
    unfold piece
    rcases Nat.lt_or_ge (63 * k) F.length with h | h
    · rw [show 63 * k - F.length = 0 by omega, List.replicate_zero, List.append_nil, ← List.append_assoc]
      have h2 : F.take (63 * k) ++ (F.drop (63 * k)).take 63 = F.take (63 * (k + 1)) := by
        rw [show 63 * (k + 1) = 63 * k + 63 by omega, List.take_add]
      rw [h2, show 63 - min 63 (F.length - 63 * k) = 63 * (k + 1) - F.length by omega]
    · rw [List.take_of_length_le h, List.take_of_length_le (show F.length ≤ 63 * (k + 1) by omega), List.drop_eq_nil_of_le h]
      rw [show min 63 (F.length - 63 * k) = 0 by omega]
      simp only [List.take_nil, List.nil_append, Nat.sub_zero]
      rw [List.append_assoc, List.replicate_append_replicate, show 63 * k - F.length + 63 = 63 * (k + 1) - F.length by omega]
theorem bodyS_enc (F : List UInt8) : bodyS (encS F) = F ++ List.replicate (63 * ((F.length + 62) / 63) - F.length) 0 := by
  rw [encS, bodyS_secsTo, List.take_of_length_le (by omega)]
theorem encS_len (F : List UInt8) : (encS F).length = (F.length + 62) / 63 := by rw [encS, secsTo_len]
def okE (e : EntT) : Prop := e.1 < 256 ∧ e.2.1 < 4294967296 ∧ e.2.2.1 < 4294967296 ∧ e.2.2.2.length ≤ 4000
theorem encE_len (e : EntT) (h : e.2.2.2.length ≤ 4000) : (encE e).length = needM e.2.2.2.length := by
  rw [encE, encS_len, fullB_length, needM, if_neg (by omega)]; omega
theorem encS_cons (F : List UInt8) (h : 0 < F.length) : ∃ r, encS F = secOf F 0 :: r := by
  unfold encS secsTo
  obtain ⟨m, hm⟩ : ∃ m, (F.length + 62) / 63 = m + 1 := ⟨(F.length + 62) / 63 - 1, by omega⟩
  rw [hm, List.range_succ_eq_map]
  exact ⟨_, rfl⟩
theorem fullB_eq (e : EntT) : fullB e.1 e.2.1 e.2.2.1 e.2.2.2 = UInt8.ofNat e.1 :: (fourB e.2.1 ++ (fourB e.2.2.1 ++ (UInt8.ofNat (e.2.2.2.length / 256) :: UInt8.ofNat e.2.2.2.length :: (e.2.2.2 ++ fourB (Sm [preB e.1 e.2.1 e.2.2.1 e.2.2.2]))))) := by
  simp [fullB, preB, preL]
theorem head_list (e : EntT) : ∃ t, (secOf (fullB e.1 e.2.1 e.2.2.1 e.2.2.2) 0).toList = 87 :: UInt8.ofNat e.1 :: (fourB e.2.1 ++ (fourB e.2.2.1 ++ (UInt8.ofNat (e.2.2.2.length / 256) :: UInt8.ofNat e.2.2.2.length :: t))) := by
  rw [secOf_list, show markK 0 = 87 from rfl]
  unfold piece
  rw [Nat.mul_zero, List.drop_zero, fullB_eq]
  refine ⟨(e.2.2.2 ++ fourB (Sm [preB e.1 e.2.1 e.2.2.1 e.2.2.2])).take 52 ++ List.replicate (63 - ((UInt8.ofNat e.1 :: (fourB e.2.1 ++ (fourB e.2.2.1 ++ (UInt8.ofNat (e.2.2.2.length / 256) :: UInt8.ofNat e.2.2.2.length :: (e.2.2.2 ++ fourB (Sm [preB e.1 e.2.1 e.2.2.1 e.2.2.2])))))).take 63).length) 0, ?_⟩
  generalize 63 - _ = q
  simp [fourB]
theorem get_of_list {s : Sec} {j : Nat} (hj : j < 64) {v : UInt8} (h : s.toList[j]? = some v) : s[j] = v := by
  rw [Vector.getElem?_toList, Vector.getElem?_eq_getElem hj] at h
  simpa using h
theorem decS_enc (e : EntT) (h : okE e) (rest : List Sec) : decS (encE e ++ rest) = some (e, needM e.2.2.2.length) := by
  obtain ⟨h1, h2, h3, h4⟩ := h
  obtain ⟨r, hr⟩ := encS_cons (fullB e.1 e.2.1 e.2.2.1 e.2.2.2) (by rw [fullB_length]; omega)
  obtain ⟨t, ht⟩ := head_list e
  have hlen := encE_len e h4
  have hE : encE e = encS (fullB e.1 e.2.1 e.2.2.1 e.2.2.2) := rfl
  have hbody := bodyS_enc (fullB e.1 e.2.1 e.2.2.1 e.2.2.2)
  rw [← hE] at hr hbody
  generalize hs : secOf (fullB e.1 e.2.1 e.2.2.1 e.2.2.2) 0 = s at *
  have n10 : numAt s 10 2 = e.2.2.2.length := by
    unfold numAt; rw [ht]
    show numE [UInt8.ofNat (e.2.2.2.length / 256), UInt8.ofNat e.2.2.2.length] = _
    exact numB_two _ (by omega)
  have n2 : numAt s 2 4 = e.2.1 := by
    unfold numAt; rw [ht]
    exact numB_four _ h2
  have n6 : numAt s 6 4 = e.2.2.1 := by
    unfold numAt; rw [ht]
    exact numB_four _ h3
  have n0 : s[0].toNat = 87 := by rw [get_of_list (v := 87) (by decide) (by rw [ht]; rfl)]; rfl
  have n1 : s[1].toNat = e.1 := by
    rw [get_of_list (v := UInt8.ofNat e.1) (by decide) (by rw [ht]; rfl)]
    simp only [UInt8.toNat_ofNat']; omega
  have htake : (s :: (r ++ rest)).take (needM e.2.2.2.length) = encE e := by
    rw [← List.cons_append, ← hr, ← hlen, List.take_left]
  have hcand : candE (s :: (r ++ rest)) s = e := by
    unfold candE
    rw [n10, htake, n1, n2, n6, hbody, fullB_eq]
    have : ((UInt8.ofNat e.1 :: (fourB e.2.1 ++ (fourB e.2.2.1 ++ (UInt8.ofNat (e.2.2.2.length / 256) :: UInt8.ofNat e.2.2.2.length :: (e.2.2.2 ++ fourB (Sm [preB e.1 e.2.1 e.2.2.1 e.2.2.2])))))) ++ List.replicate (63 * (((UInt8.ofNat e.1 :: (fourB e.2.1 ++ (fourB e.2.2.1 ++ (UInt8.ofNat (e.2.2.2.length / 256) :: UInt8.ofNat e.2.2.2.length :: (e.2.2.2 ++ fourB (Sm [preB e.1 e.2.1 e.2.2.1 e.2.2.2])))))).length + 62) / 63) - (UInt8.ofNat e.1 :: (fourB e.2.1 ++ (fourB e.2.2.1 ++ (UInt8.ofNat (e.2.2.2.length / 256) :: UInt8.ofNat e.2.2.2.length :: (e.2.2.2 ++ fourB (Sm [preB e.1 e.2.1 e.2.2.1 e.2.2.2])))))).length) 0).drop 11 = e.2.2.2 ++ (fourB (Sm [preB e.1 e.2.1 e.2.2.1 e.2.2.2]) ++ List.replicate (63 * (((UInt8.ofNat e.1 :: (fourB e.2.1 ++ (fourB e.2.2.1 ++ (UInt8.ofNat (e.2.2.2.length / 256) :: UInt8.ofNat e.2.2.2.length :: (e.2.2.2 ++ fourB (Sm [preB e.1 e.2.1 e.2.2.1 e.2.2.2])))))).length + 62) / 63) - (UInt8.ofNat e.1 :: (fourB e.2.1 ++ (fourB e.2.2.1 ++ (UInt8.ofNat (e.2.2.2.length / 256) :: UInt8.ofNat e.2.2.2.length :: (e.2.2.2 ++ fourB (Sm [preB e.1 e.2.1 e.2.2.1 e.2.2.2])))))).length) 0) := by
      generalize List.replicate _ _ = z
      generalize fourB (Sm _) = y
      simp [fourB]
    rw [this, List.take_left]
  rw [hr, List.cons_append]
  show (if s[0].toNat = 87 ∧ needM (numAt s 10 2) ≠ 0 ∧ needM (numAt s 10 2) ≤ (s :: (r ++ rest)).length ∧ encE (candE (s :: (r ++ rest)) s) = (s :: (r ++ rest)).take (needM (numAt s 10 2)) then some (candE (s :: (r ++ rest)) s, needM (numAt s 10 2)) else none) = _
  rw [hcand, n10, htake, if_pos]
  refine ⟨n0, ?_, ?_, rfl⟩
  · unfold needM; rw [if_neg (by omega)]; omega
  · rw [← hlen, hr]; simp
end Go.Proofs.YtjlolpmmpafjeaaGreat
set_option linter.unusedVariables false
namespace Go.Proofs.YtjlolpmmpafjeaaGreat
open Slk
def entV (x : EntT) (q : Option Addr × Nat) : List Value := [.int .i64 x.1, .int .u32 x.2.1, .int .u32 x.2.2.1, .slice q.1 x.2.2.2.length q.2]
theorem Decode_some (D : Nat → Prop) (w : World) (v : Value) (S : List Sec) (x : EntT) (n : Nat) (h : decS S = some (x, n)) (HA : Old D w (Rep.rep S [v])) :
    Calls Tryz.prog 79 #[v] w fun e w' => ∃ q : Option Addr × Nat, e = .returned (.tuple #[.agg (entV x q).toArray, .int .i64 n, .int .i64 0]) ∧ Own D w w' [row q.1 5 1 x.2.2.2.length q.2 (x.2.2.2.map u8v)] :=
  (Decode_spec D w v S HA).mono fun e w' hp => by
    rcases hp with ⟨h1, _⟩ | ⟨x', n', q, h1, he, H'⟩
    · rw [h] at h1; cases h1
    · rw [h] at h1; cases h1; exact ⟨q, he, H'⟩
theorem Decode_none (D : Nat → Prop) (w : World) (v : Value) (S : List Sec) (h : decS S = none) (HA : Old D w (Rep.rep S [v])) :
    Calls Tryz.prog 79 #[v] w fun e w' => e = .returned (.tuple #[.agg #[.int .i64 0, .int .u32 0, .int .u32 0, .slice none 0 0], .int .i64 0, .int .i64 11]) ∧ Own D w w' [] :=
  (Decode_spec D w v S HA).mono fun e w' hp => by
    rcases hp with ⟨_, he, H'⟩ | ⟨x', n', q, h1, _⟩
    · exact ⟨he, H'⟩
    · rw [h] at h1; cases h1
theorem Encode_ent (D : Nat → Prop) (w : World) (e : EntT) (h : okE e) (v : Value) (HA : Old D w (Rep.rep e.2.2.2 [v])) :
    Calls Tryz.prog 99 #[.agg #[.int .i64 e.1, .int .u32 e.2.1, .int .u32 e.2.2.1, v]] w fun r w' => ∃ q : Option Addr × Nat, r = .returned (.tuple #[.slice q.1 (encE e).length q.2, .int .i64 0]) ∧ Own D w w' [row q.1 61 64 (encE e).length q.2 ((encE e).flatMap secC)] := by
  have hl : (encE e).length = (15 + e.2.2.2.length + 62) / 63 := by rw [encE, encS_len, fullB_length]
  rw [hl]
  exact Encode_ok D w e.1 e.2.1 e.2.2.1 v e.2.2.2 h.1 h.2.1 h.2.2.1 h.2.2.2 HA
end Go.Proofs.YtjlolpmmpafjeaaGreat
set_option linter.unusedVariables false
set_option linter.unusedSimpArgs false
namespace Go.Proofs.YtjlolpmmpafjeaaGreat
open Slk
def latC (p : Nat × Sec) : List Value := .int .i64 (p.1 : Int) :: secC p.2
@[simp] theorem latC_len (p : Nat × Sec) : (latC p).length = 65 := by simp [latC, secC_len]
theorem latC_one (p : Nat × Sec) : ∀ v ∈ latC p, v.oneCell' = true := fun v hv => by
  rcases List.mem_cons.1 hv with rfl | h
  · rfl
  · exact secC_one _ v h
def dskL (tD tL g : Nat) (S : List Sec) (P : List (Nat × Sec)) (q : (Option Addr × Nat) × (Option Addr × Nat)) : List HProp :=
  [blk g tD [.slice q.1.1 S.length q.1.2, .slice q.2.1 P.length q.2.2], row q.1.1 61 64 S.length q.1.2 (S.flatMap secC), row q.2.1 tL 65 P.length q.2.2 (P.flatMap latC)]
def dskT (tD tL g : Nat) (S : List Sec) (P : List (Nat × Sec)) : HProp := exS (dskL tD tL g S P)
abbrev dsk (g : Nat) (S : List Sec) (P : List (Nat × Sec)) : HProp := dskT 107 143 g S P
theorem dsk_mk {tD tL g : Nat} {S : List Sec} {P : List (Nat × Sec)} {A0 A1 : Option Addr} {c0 c1 : Nat} {l : List HProp} :
    Ent (blk g tD [.slice A0 S.length c0, .slice A1 P.length c1] :: row A0 61 64 S.length c0 (S.flatMap secC) :: row A1 tL 65 P.length c1 (P.flatMap latC) :: l) (dskT tD tL g S P :: l) :=
  Ent.exS (L := dskL tD tL g S P) (l := l) ((A0, c0), (A1, c1))
theorem zeros_sec (n : Nat) : zerosL (List.replicate 64 (Value.int .u8 0)) n = (List.replicate n zeroSec).flatMap secC := by
  rw [zerosL, List.flatMap_replicate, secC_zero]
theorem New_ok (D : Nat → Prop) (w : World) (n : Nat) (h1 : 1 ≤ n) (h2 : n ≤ 4096) :
    Calls Tryz.prog 15 #[.int .i64 n] w fun e w' => ∃ g : Nat, e = .returned (.tuple #[.pointer (some ⟨g, 0, none⟩), .int .i64 0]) ∧ Own D w w' [dsk g (List.replicate n zeroSec) []] := by
  refine hc_enter (vs := [.int .i64 n]) Tryz.func15 rfl _ Tryz.ntmps15 rfl (Own.start D w) ?_
  simp only [argSlots, Nat.zero_add]
  refine zg <| hl_v (ov_assign rfl) rfl <| hl_v (ov_assign rfl) rfl <| zn <| ?_
  refine hc_seq <| zg <| hl_v (ov_move rfl) rfl <| hl_v (ov_lss rfl rfl) rfl <| hl_v (ov_move rfl) rfl <| ?_
  refine hl_partF (t := 6) rfl (by omega) ?_
  refine hl_on rfl rfl <| hl_v (ov_move rfl) rfl <| hl_on rfl rfl <| hl_v (ov_gtr rfl rfl) rfl <| hl_v (ov_pickF rfl rfl) rfl <| zn <| ?_
  refine hc_cond_F rfl (by omega) ?_
  refine zk <| zg <| hl_v (ov_move rfl) rfl <| ?_
  refine hl_new (on_make rfl rfl n rfl (by omega) (by omega)) rfl rfl rfl (fun b => ?_)
  refine hl_v (ov_buildSN rfl rfl) rfl <| ?_
  refine hl_new (on_boxN rfl rfl) rfl rfl rfl fun b13 =>  ?_
  refine hl_v (ov_assign rfl) rfl <| hl_v (ov_assign rfl) rfl <| zn <| hc_ret <| ?_
  refine results_2 (.inr rfl) rfl rfl rfl fun w' H' => ⟨_, rfl, H'.ent ?_⟩
  refine Ent.trans (b := [blk b13 107 [.slice (some ⟨b, 0, none⟩) (List.replicate n zeroSec).length n, .slice none ([] : List (Nat × Sec)).length 0], row (some ⟨b, 0, none⟩) 61 64 (List.replicate n zeroSec).length n ((List.replicate n zeroSec).flatMap secC), row none 143 65 0 0 []]) ?_ dsk_mk
  rw [List.length_replicate, ← zeros_sec]
  exact Ent.cons ((Ent.blk_row 64 n (by rw [zerosL_length]; simp) (by omega)).trans (Ent.cons (Ent.nil_row _ _)))
theorem has_spec (D : Nat → Prop) (w : World) (g : Nat) (i : Int) (A0 A1 : Option Addr) (n c0 m c1 : Nat) (H : Own D w w [blk g 107 [.slice A0 n c0, .slice A1 m c1]]) :
    Calls Tryz.prog 61 #[.pointer (some ⟨g, 0, none⟩), .int .i64 i] w fun e w' => e = .returned (.bool (decide (0 ≤ i ∧ i < n))) ∧ Own D w w' [blk g 107 [.slice A0 n c0, .slice A1 m c1]] := by
  refine hc_enter (vs := [.pointer (some ⟨g, 0, none⟩), .int .i64 i]) Tryz.func61 rfl _ Tryz.ntmps61 rfl H ?_
  simp only [argSlots, Nat.zero_add]
  refine zg <| hl_v (ov_assign rfl) rfl <| zn <| hc_seq <| ?_
  refine hc_region <| hl_v (ov_move rfl) rfl <| hl_v (ov_neqP rfl rfl) rfl <| hl_v (ov_move rfl) rfl <| ?_
  refine hl_on rfl rfl <| hl_v (ov_move rfl) rfl <| hl_on rfl rfl <| hl_v (ov_geq rfl rfl) rfl <| hl_v (ov_pickT rfl rfl) rfl <| hl_v (ov_move rfl) rfl <| ?_
  refine hl_part (t := 11) rfl (fun h1 => ?_) (fun h1 => ?_)
  · refine hl_on rfl rfl <| hl_v (ov_move rfl) rfl <| hl_on rfl rfl <| hl_v (ov_move rfl) rfl <| hl_on rfl rfl <| hl_v (ov_nil rfl) rfl <| hl_on rfl rfl <| hl_v (ov_fieldA rfl) rfl <| hl_on rfl rfl <| hl_v (ov_load rfl (CellIs.blk rfl)) rfl <| hl_on rfl rfl <| hl_v za15 rfl <| ?_
    refine hl_on rfl rfl <| hl_v (ov_lss rfl rfl) rfl <| hl_v (ov_pickT rfl rfl) rfl <| hl_v (ov_assign rfl) rfl <| zn <| hc_ret <| ?_
    exact results_1 (.inr rfl) rfl rfl fun w' H' => ⟨by simp [h1], H'⟩
  refine hl_off rfl rfl rfl rfl rfl rfl <| hl_off rfl rfl rfl rfl rfl rfl <| hl_off rfl rfl rfl rfl rfl rfl <| hl_off rfl rfl rfl rfl rfl rfl <| hl_off rfl rfl rfl rfl rfl rfl <| hl_off rfl rfl rfl rfl rfl rfl <| ?_
  refine hl_off rfl rfl rfl rfl rfl rfl <| hl_v (ov_pickF rfl rfl) rfl <| hl_v (ov_assign rfl) rfl <| zn <| hc_ret <| ?_
  exact results_1 (.inr rfl) rfl rfl fun w' H' => ⟨by simp [h1], H'⟩
theorem fill_lat (i : Nat) (s : Sec) : fillL (fun j => [(0, 1), (1, 64)][j]?) ([.int .i64 0] ++ List.replicate 64 (.int .u8 0)) [(0, .int .i64 (i : Int)), (1, .agg (secC s).toArray)] = some (latC (i, s)) := by
  have h : setSeg (.int .i64 (i : Int) :: List.replicate 64 (.int .u8 0)) 1 (secC s) = .int .i64 (i : Int) :: secC s := by
    have := setSeg_mid [.int .i64 (i : Int)] (List.replicate 64 (.int .u8 0)) [] (secC s) 1 rfl (by rw [secC_len]; simp)
    simpa using this
  simp only [fillL, Value.cells, List.getElem?_cons_zero, List.getElem?_cons_succ, List.size_toArray, secC_len]
  simp only [setSeg, List.length_cons, List.length_nil, List.cons_append, List.nil_append, List.length_replicate, List.set_cons_zero, h, and_self]
  simp [latC]
theorem fill_one (i : Nat) (s : Sec) : fillL (fun j => some (j * 65, 65)) (zerosL ([.int .i64 0] ++ List.replicate 64 (.int .u8 0)) 1) [(0, .agg (latC (i, s)).toArray)] = some (latC (i, s)) := by
  simp only [fillL, Value.cells, List.size_toArray, latC_len, Nat.zero_mul]
  rw [if_pos ⟨trivial, by rw [zerosL_length]; simp⟩, setSeg_all (by rw [latC_len, zerosL_length]; simp)]
theorem Write_ok (D : Nat → Prop) (w : World) (g : Nat) (i : Nat) (s : Sec) (S : List Sec) (P : List (Nat × Sec)) (hi : i < S.length) (hP : P.length ≤ 1000000) (H : Own D w w [dsk g S P]) :
    Calls Tryz.prog 23 #[.pointer (some ⟨g, 0, none⟩), .int .i64 i, .agg (secC s).toArray] w fun e w' => e = .returned (.int .i64 0) ∧ Own D w w' [dsk g S (P ++ [(i, s)])] := by
  refine hc_enter (vs := [.pointer (some ⟨g, 0, none⟩), .int .i64 i, .agg (secC s).toArray]) Tryz.func23 rfl _ Tryz.ntmps23 rfl H ?_
  simp only [argSlots, Nat.zero_add]
  refine HC.exs ?_
  rintro ⟨⟨A0, c0⟩, A1, c1⟩
  refine HC.ent (l' := [blk g 107 [.slice A0 S.length c0, .slice A1 P.length c1], row A0 61 64 S.length c0 (S.flatMap secC), row A1 143 65 P.length c1 (P.flatMap latC)]) (fun _ h => h) ?_
  refine zg <| ?_
  refine hl_new (on_boxG (cs := secC s) rfl) rfl rfl rfl (fun b5 => ?_)
  refine hl_v (ov_assign rfl) rfl <| zn <| hc_seq <| zg <| ?_
  refine hl_v (ov_move rfl) rfl <| hl_v (ov_move rfl) rfl <| ?_
  refine hl_c Tryz.call61 rfl rfl (fun w1 H1 => Own.callp (blk g 107 [.slice A0 S.length c0, .slice A1 P.length c1]) H1 fun D' hold hin H2 => has_spec D' w1 g i A0 A1 _ c0 _ c1 H2) ?_
  refine hl_v za16 rfl <| ?_
  refine zn <| ?_
  refine hc_cond_F rfl (by simp [hi]) ?_
  refine zk <| hc_seq <| ?_
  refine hc_cutK0 (σ := Option Addr × Nat) [] rfl  (fun q => [blk g 107 [.slice A0 S.length c0, .slice q.1 (P.length + 1) q.2], row A0 61 64 S.length c0 (S.flatMap secC), row q.1 143 65 (P.length + 1) q.2 ((P ++ [(i, s)]).flatMap latC)]) (fun K1 hK1 => ?_) (fun q => ?_)
  · refine HC.ent (Ent.trans (b := [blk b5 61 (secC s), blk g 107 [.slice A0 S.length c0, .slice A1 P.length c1], row A0 61 64 S.length c0 (S.flatMap secC), row A1 143 65 P.length c1 (P.flatMap latC)]) za4 (Ent.refl _)) ?_
    refine hc_any [blk b5 61 (secC s)] mixed 13 rfl ?_
    refine ha_v 0 rfl (ov_move rfl) rfl <| ?_
    refine ha_v 1 rfl (ov_move rfl) rfl <| ?_
    refine ha_v 2 rfl (ov_nil rfl) rfl <| ?_
    refine ha_v 3 rfl (ov_fieldA rfl) rfl <| ?_
    refine ha_v 5 rfl (ov_move rfl) rfl <| ?_
    refine ha_v 6 rfl za10 rfl <| ?_
    refine ha_v 7 rfl (ov_buildS (res := latC (i, s)) rfl (fill_lat i s)) rfl ?_
    refine ha_two 4 8 (by kernel_rfl) ?_ ?_
    · skip
      refine ho_v rfl (ov_load rfl (CellIs.blk rfl)) rfl ?_
      refine ha_one 8 (by kernel_rfl) <| ?_
      refine ho_n rfl (on_buildSlice (res := latC (i, s)) rfl rfl (fill_one i s)) rfl (fun b19 => ?_)
      refine ha_one 9 (by kernel_rfl) <| ?_
      refine ho_n rfl (on_appendR (A := A1) (news := latC (i, s)) rfl rfl (SrcIs.blk (b := b19)) (by rw [latC_len]) (latC_one _) (by decide) (by omega)) rfl ?_
      rintro ⟨B, cB⟩
      dsimp only
      refine ha_v 10 rfl (ov_nil rfl) rfl <| ?_
      refine ha_v 11 rfl (ov_fieldA rfl) rfl <| ?_
      refine ha_one 12 (by kernel_rfl) <| ?_
      refine ho_w0 rfl (on_storeN rfl rfl rfl rfl rfl) rfl ?_
      refine ha_done (by kernel_rfl) <| ?_
      exact hx_cut hK1 ((B, cB)) za9 (by rw [List.flatMap_append, List.flatMap_singleton]; exact za4)
    skip
    refine ho_n rfl (on_buildSlice (res := latC (i, s)) rfl rfl (fill_one i s)) rfl (fun b19 => ?_)
    refine ha_one 4 (by kernel_rfl) <| ?_
    refine ho_v rfl (ov_load rfl (CellIs.blk rfl)) rfl ?_
    refine ha_one 9 (by kernel_rfl) <| ?_
    refine ho_n rfl (on_appendR (A := A1) (news := latC (i, s)) rfl rfl (SrcIs.blk (b := b19)) (by rw [latC_len]) (latC_one _) (by decide) (by omega)) rfl ?_
    rintro ⟨B, cB⟩
    dsimp only
    refine ha_v 10 rfl (ov_nil rfl) rfl <| ?_
    refine ha_v 11 rfl (ov_fieldA rfl) rfl <| ?_
    refine ha_one 12 (by kernel_rfl) <| ?_
    refine ho_w0 rfl (on_storeN rfl rfl rfl rfl rfl) rfl ?_
    refine ha_done (by kernel_rfl) <| ?_
    exact hx_cut hK1 ((B, cB)) za9 (by rw [List.flatMap_append, List.flatMap_singleton]; exact za4)
  refine hx_then_normal <| zg <| hl_v (ov_assign rfl) rfl <| zn <| ?_
  refine hc_ret <| ?_
  exact results_1 (.inr rfl) rfl rfl fun w' H' => ⟨rfl, H'.ent (by have := dsk_mk (tD := 107) (tL := 143) (g := g) (S := S) (P := P ++ [(i, s)]) (A0 := A0) (c0 := c0) (A1 := q.1) (c1 := q.2) (l := []); rw [List.length_append] at this; exact this)⟩
end Go.Proofs.YtjlolpmmpafjeaaGreat
