import Derived.Test.YtpgpfcplchaleaaCodP
set_option linter.unusedVariables false
set_option linter.unusedSimpArgs false
namespace Go.Proofs.Ytpgpfcplchaleaa
open Slk
/-! ### What is left to read -/
structure RS where
  rem : List UInt8
  v : Value
  bad : Bool
def cutV (v : Value) (k : Nat) : Value := match v with
  | .slice A n c => .slice (if c = k then A else A.map (·.add (k * 1))) (n - k) (c - k)
  | v => v
def numB (xs : List UInt8) : Nat := xs.foldl (fun n c => n * 256 + c.toNat) 0
theorem numB_snoc (xs : List UInt8) (k : Nat) (h : k < xs.length) : numB (xs.take (k + 1)) = numB (xs.take k) * 256 + xs[k].toNat := by
  unfold numB
  rw [List.take_succ_eq_append_getElem h, List.foldl_append]; rfl
theorem numB_lt (xs : List UInt8) (k : Nat) (hk : k ≤ xs.length) : numB (xs.take k) < 256 ^ k := by
  induction k with
  | zero => simp [numB]
  | succ k ih =>
    rw [numB_snoc xs k (by omega)]
    have := ih (by omega)
    have hb := xs[k].toNat_lt
    rw [Nat.pow_succ]; omega
def getN (s : RS) (k : Nat) : Nat := if s.rem.length < k then 0 else numB (s.rem.take k)
def getS (s : RS) (k : Nat) : RS := if s.rem.length < k then ⟨[], .slice none 0 0, true⟩ else ⟨s.rem.drop k, cutV s.v k, s.bad⟩
theorem old_get {D : Nat → Prop} {w : World} {s : RS} (k : Nat) (h : Old D w (Rep.rep s.rem [s.v])) : Old D w (Rep.rep (getS s k).rem [(getS s k).v]) := by
  unfold getS
  split
  · exact Old.nil
  · rename_i hk
    obtain ⟨A, c, hv, _⟩ := h.openB
    refine h.imp fun x hx => ?_
    have hx : Rep.rep s.rem [s.v] x := hx
    rw [hv] at hx
    have := rep_cut hx k s.rem.length (by omega) (Nat.le_refl _)
    rw [hv]
    have e : (s.rem.drop k).take (s.rem.length - k) = s.rem.drop k := List.take_of_length_le (by simp)
    rw [e] at this
    exact this
theorem getN_lt (s : RS) (k : Nat) : getN s k < 256 ^ k := by
  unfold getN
  split
  · exact Nat.pow_pos (by decide)
  · exact numB_lt _ _ (by omega)
theorem or_byte64 (a b : Nat) (ha : a < 72057594037927936) (hb : b < 256) : IntKind.u64.wrap (BitVec.ofInt 64 (((a * 256 : Nat) : Int)) ||| BitVec.ofInt 64 (b : Int)).toNat = ((a * 256 + b : Nat) : Int) := by
  have e1 : BitVec.ofInt 64 ((a * 256 : Nat) : Int) = BitVec.ofNat 64 (a * 256) := rfl
  have e2 : BitVec.ofInt 64 (b : Int) = BitVec.ofNat 64 b := rfl
  rw [e1, e2, BitVec.toNat_or, BitVec.toNat_ofNat, BitVec.toNat_ofNat]
  rw [Nat.mod_eq_of_lt (by omega), Nat.mod_eq_of_lt (by omega)]
  have := Nat.two_pow_add_eq_or_of_lt (i := 8) (b := b) (by omega) a
  rw [show a * 256 = 2 ^ 8 * a by omega, ← this]
  exact wrap_u64 (by omega)
theorem cut_zero (c : Prop) [Decidable c] (A : Option Addr) (s : Nat) : (if c then A else A.map (·.add (0 * s))) = A := by
  split
  · rfl
  · cases A with
    | none => rfl
    | some a => simp [Addr.add]
theorem ov_sliceR {P : Program} {D : Nat → Prop} {w0 : World} {env : Slots} {l : List HProp} {dst : Option Tmp} {ty : TypeId} {pos : String} {after : Array Edge} {g : Option (Nat × Bool)} {t e : TypeId} {s bb : Nat} {z : List Value} [h : TySlice P t e] [hs : TyI P e s bb z] {x : Operand} {ol oh : Option Operand} {A : Option Addr} {n cap : Nat} (hx : evalO env x = some (.slice A n cap)) (lo hi : Nat)
    (hl : (ol = none ∧ lo = 0) ∨ ∃ o k, ol = some o ∧ evalO env o = some (.int k lo)) (hh : (oh = none ∧ hi = n) ∨ ∃ o k, oh = some o ∧ evalO env o = some (.int k hi)) (h1 : lo ≤ hi) (h2 : hi ≤ cap) {R : Value} (hR : Value.slice (if cap = lo then A else A.map (·.add (lo * s))) (hi - lo) (cap - lo) = R) :
    OpVal P D w0 env l ⟨dst, .slice t x ol oh none, ty, pos, after, g⟩ R := hR ▸ ov_slice hx lo hi hl hh h1 h2
theorem get_spec (D : Nat → Prop) (w : World) (g t k : Nat) (s : RS) (hk : k ≤ 6) (H : Own D w w [blk g t [s.v, .bool s.bad]]) (HA : Old D w (Rep.rep s.rem [s.v])) :
    Calls Try.prog 74 #[.pointer (some ⟨g, 0, none⟩), .int .i64 k] w fun e w' => e = .returned (.int .u64 (getN s k)) ∧ Own D w w' [blk g t [(getS s k).v, .bool (getS s k).bad]] := by
  obtain ⟨A, cap, hv, hc1, hc2, HS⟩ := HA.openB
  obtain ⟨xs, v, bad⟩ := s
  dsimp only at *
  subst hv
  unfold getN getS
  dsimp only
  refine hc_enter (vs := [.pointer (some ⟨g, 0, none⟩), .int .i64 k]) Try.func74 rfl _ Try.ntmps74 rfl H ?_
  simp only [argSlots, Nat.zero_add]
  refine hc_seq <|
    hc_region <|
    hl_val (ov_assign rfl) rfl rfl rfl <|
    hl_nil <|
    hx_then_normal <|
    hc_seq <| ?_
  refine hc_seq <|
    hc_region <|
    hl_val (ov_move rfl) rfl rfl rfl <|
    hl_val (ov_nil rfl) rfl rfl rfl <|
    hl_val (ov_fieldA rfl) rfl rfl rfl <|
    hl_val (ov_load rfl (CellIs.blk rfl)) rfl rfl rfl <| ?_
  refine hl_val (by first | exact ov_len rfl | exact ov_lenS rfl) rfl rfl rfl <| ?_
  refine hl_val (ov_move rfl) rfl rfl rfl <|
    hl_val (ov_lss rfl rfl) rfl rfl rfl <|
    hl_nil <|
    hx_then_normal <| ?_
  refine hc_cond rfl (fun h => ?_) (fun h => ?_)
  · have hlt : xs.length < k := by omega
    rw [if_pos hlt, if_pos hlt]
    refine hc_seq <|
      hc_region <|
      hl_val (ov_move rfl) rfl rfl rfl <|
      hl_val (ov_move rfl) rfl rfl rfl <|
      hl_val (ov_nil rfl) rfl rfl rfl <|
      hl_val (ov_fieldA rfl) rfl rfl rfl <| ?_
    refine hl_u0 (on_storeN rfl rfl rfl rfl rfl) rfl rfl <|
      hl_val (ov_nil rfl) rfl rfl rfl <|
      hl_val (ov_fieldA rfl) rfl rfl rfl <|
      hl_u0 (on_storeN rfl rfl rfl rfl rfl) rfl rfl <|
      hl_nil <|
      hx_then_normal <| ?_
    refine hc_seq <|
      hc_region <|
      hl_val (ov_assign rfl) rfl rfl rfl <|
      hl_nil <|
      hx_then_normal <|
      hc_ret <| ?_
    refine hx_then_ret <| ?_
    exact results_1 (.inr rfl) rfl rfl fun w' H' => ⟨rfl, H'⟩
  · have hge : ¬ xs.length < k := by omega
    rw [if_neg hge, if_neg hge]
    refine hc_skip <|
      hx_then_normal <|
      hc_seq <|
      hc_region <|
      hl_val (ov_assign rfl) rfl rfl rfl <|
      hl_nil <| ?_
    refine hx_then_normal <|
      hc_seq <|
      hc_seq <|
      hc_region <|
      hl_val (ov_move rfl) rfl rfl rfl <|
      hl_val (ov_nil rfl) rfl rfl rfl <| ?_
    refine hl_val (ov_fieldA rfl) rfl rfl rfl <|
      hl_val (ov_load rfl (CellIs.blk rfl)) rfl rfl rfl <|
      hl_val (ov_move rfl) rfl rfl rfl <| ?_
    refine hl_val (ov_sliceR rfl 0 k (.inl ⟨rfl, rfl⟩) (.inr ⟨_, _, rfl, rfl⟩) (Nat.zero_le _) (by omega) (R := .slice A k cap) (by rw [cut_zero]; rfl)) rfl rfl rfl ?_
    refine hl_val (by first | exact ov_len rfl | exact ov_lenS rfl) rfl rfl rfl <| ?_
    refine hl_val (ov_move rfl) rfl rfl rfl <|
      hl_nil <|
      hx_then_normal <|
      hc_block <| ?_
    refine hc_loops2 (σ := Nat) [0, 1, 26, 27] rfl 28 (fun i => .int .i64 (i : Int)) 5 (fun i => .int .u64 ((numB (xs.take i) : Nat) : Int)) (fun i => i ≤ k) (fun i => k - i) (0) (Nat.zero_le _) rfl rfl ?_
    rintro i hj K1 hK1
    refine hc_seq <|
      hc_region <|
      hl_val (ov_lss rfl rfl) rfl rfl rfl <|
      hl_nil <|
      hx_then_normal <|
      hc_seq <| ?_
    refine hc_cond rfl (fun h2 => ?_) (fun h2 => ?_)
    · have hlt : i < xs.length := by omega
      have hA : isA A := HS.isA (by intro h; simp at h; subst h; simp at hlt)
      have hcell : CellIs D w [blk g t [.slice A xs.length cap, .bool bad]] (ab A) (ao A + i * 1) (u8v xs[i]) := by
        rw [Nat.mul_one]
        exact (SrcIs.old HS).cell (by simp [hlt])
      have hx := xs[i].toNat_lt
      have hsn := numB_snoc xs i hlt
      have hb := numB_lt xs i (by omega)
      have hb3 : numB (xs.take i) < 72057594037927936 := Nat.lt_of_lt_of_le hb (by have : 256 ^ i ≤ 256 ^ 7 := Nat.pow_le_pow_right (by decide) (by omega); exact this)
      obtain ⟨m, hm⟩ : ∃ m, m = numB (xs.take i) := ⟨_, rfl⟩
      rw [← hm] at hsn hb3
      unfold u8v at hcell
      refine hc_skip <|
        hx_then_normal <|
        hc_seq <|
        hc_block <|
        hc_seq <|
        hc_region <| ?_
      refine hl_val (ov_idxS rfl (by assumption) rfl _ rfl (by omega)) rfl rfl rfl <|
        hl_val (by first | exact ov_load rfl (by assumption) | exact ov_load rfl (hcl _) | exact ov_load rfl (hcl2 _) | exact ov_load rfl (hcl3 _) | exact ov_load rfl (CellIs.blk rfl)) rfl rfl rfl <| ?_
      refine hl_val (ov_assign rfl) rfl rfl rfl <|
        hl_nil <|
        hx_then_normal <|
        hc_region <|
        hl_val (ov_move rfl) rfl rfl rfl <| ?_
      refine hl_val (ov_shl (m := ((m * 256 : Nat) : Int)) rfl rfl (by decide) (by rw [← hm]; show IntKind.u64.wrap ((m : Int) * 256) = _; rw [show (m : Int) * 256 = ((m * 256 : Nat) : Int) by omega]; exact wrap_u64 (by omega))) rfl rfl rfl ?_
      refine hl_val (ov_move rfl) rfl rfl rfl <|
        hl_val (ov_conv rfl (by first | exact wrap_u64 (by omega) | rfl)) rfl rfl rfl <| ?_
      refine hl_val (ov_or (m := ((numB (xs.take (i + 1)) : Nat) : Int)) rfl rfl (by rw [hsn]; exact or_byte64 m _ hb3 hx)) rfl rfl rfl ?_
      refine hl_val (ov_assign rfl) rfl rfl rfl <|
        hl_nil <|
        hx_block_normal <|
        hx_then_normal <|
        hc_region <|
        hl_val (ov_add rfl rfl (by first | exact wrap_i64 (by omega) | rfl)) rfl rfl rfl <| ?_
      refine hl_val (ov_move rfl) rfl rfl rfl <|
        hl_nil <| ?_
      refine hx_next hK1 (i + 1) (by omega) (by omega) (by repeat (first | exact Slots.sub_nil _ | refine Slots.sub_cons rfl ?_)) (by first | assumption | exact Ent.refl _ | exact Ent.nil _ | (repeat (first | exact Ent.refl _ | exact Ent.nil _ | refine Ent.pick ?_)))
    · have hik : i = k := by omega
      subst hik
      refine hc_exit <|
        hx_then_exit <|
        hx_then_exit <|
        hx_block_out <|
        hx_then_normal <|
        hc_seq <| ?_
      refine hc_region <|
        hl_val (ov_move rfl) rfl rfl rfl <|
        hl_val (ov_move rfl) rfl rfl rfl <|
        hl_val (ov_nil rfl) rfl rfl rfl <|
        hl_val (ov_fieldA rfl) rfl rfl rfl <|
        hl_val (ov_load rfl (CellIs.blk rfl)) rfl rfl rfl <| ?_
      refine hl_val (ov_move rfl) rfl rfl rfl <|
        hl_val (ov_slice rfl _ _ (.inr ⟨_, _, rfl, rfl⟩) (.inl ⟨rfl, rfl⟩) (by omega) (by omega)) rfl rfl rfl <|
        hl_val (ov_nil rfl) rfl rfl rfl <|
        hl_val (ov_fieldA rfl) rfl rfl rfl <| ?_
      refine hl_u0 (on_storeE [cutV (.slice A xs.length cap) i, .bool bad] rfl rfl (by simp) rfl rfl) rfl rfl ?_
      refine hl_nil <|
        hx_then_normal <|
        hc_seq <|
        hc_region <|
        hl_val (ov_move rfl) rfl rfl rfl <|
        hl_val (ov_assign rfl) rfl rfl rfl <| ?_
      refine hl_nil <|
        hx_then_normal <|
        hc_ret <| ?_
      exact results_1 (.inr rfl) rfl rfl fun w' H' => ⟨rfl, H'⟩
theorem int_spec (D : Nat → Prop) (w : World) (g t k : Nat) (s : RS) (hk : k ≤ 6) (H : Own D w w [blk g t [s.v, .bool s.bad]]) (HA : Old D w (Rep.rep s.rem [s.v])) :
    Calls Try.prog 73 #[.pointer (some ⟨g, 0, none⟩), .int .i64 k] w fun e w' => e = .returned (.int .i64 (getN s k)) ∧ Own D w w' [blk g t [(getS s k).v, .bool (getS s k).bad]] := by
  have hb := getN_lt s k
  have hb3 : getN s k < 281474976710656 := Nat.lt_of_lt_of_le hb (by have : 256 ^ k ≤ 256 ^ 6 := Nat.pow_le_pow_right (by decide) hk; exact this)
  refine hc_enter (vs := [.pointer (some ⟨g, 0, none⟩), .int .i64 k]) Try.func73 rfl _ Try.ntmps73 rfl H ?_
  simp only [argSlots, Nat.zero_add]
  refine hc_seq <|
    hc_region <|
    hl_val (ov_assign rfl) rfl rfl rfl <|
    hl_nil <|
    hx_then_normal <|
    hc_seq <| ?_
  refine hc_region <|
    hl_val (ov_move rfl) rfl rfl rfl <|
    hl_val (ov_move rfl) rfl rfl rfl <| ?_
  refine hl_c Try.call74 rfl rfl (fun w1 H1 => Own.callp (blk g t [s.v, .bool s.bad]) H1 fun D' hold hin H2 => get_spec D' w1 g t k s hk H2 (hold _ HA)) ?_
  refine hl_val (ov_conv rfl (by first | exact wrap_i64 (by omega) | rfl)) rfl rfl rfl <| ?_
  refine hl_val (ov_assign rfl) rfl rfl rfl <|
    hl_nil <|
    hx_then_normal <|
    hc_ret <| ?_
  exact results_1 (.inr rfl) rfl rfl fun w' H' => ⟨rfl, H'⟩
theorem ended_spec (D : Nat → Prop) (w : World) (g t : Nat) (s : RS) (H : Own D w w [blk g t [s.v, .bool s.bad]]) (HA : Old D w (Rep.rep s.rem [s.v])) :
    Calls Try.prog 46 #[.pointer (some ⟨g, 0, none⟩)] w fun e w' => ∃ b : BIff (s.bad = false ∧ s.rem = []), e = .returned (.bool b.1) ∧ Own D w w' [blk g t [s.v, .bool s.bad]] := by
  obtain ⟨A, cap, hv, hc1, hc2, HS⟩ := HA.openB
  obtain ⟨xs, v, bad⟩ := s
  dsimp only at *
  subst hv
  refine hc_enter (vs := [.pointer (some ⟨g, 0, none⟩)]) Try.func46 rfl _ Try.ntmps46 rfl H ?_
  simp only [argSlots, Nat.zero_add]
  refine hc_seq <|
    hc_region <|
    hl_val (ov_assign rfl) rfl rfl rfl <|
    hl_nil <|
    hx_then_normal <|
    hc_seq <| ?_
  refine hc_region <|
    hl_val (ov_move rfl) rfl rfl rfl <|
    hl_val (ov_nil rfl) rfl rfl rfl <|
    hl_val (ov_fieldA rfl) rfl rfl rfl <|
    hl_val (ov_fieldA rfl) rfl rfl rfl <|
    hl_val (ov_load rfl (CellIs.blk rfl)) rfl rfl rfl <| ?_
  refine hl_val (by first | exact ov_notd rfl | exact ov_not rfl) rfl rfl rfl <| ?_
  refine hl_val (ov_move rfl) rfl rfl rfl <| ?_
  refine hl_partb (t := 9) rfl (fun h => ?_) (fun h => ?_)
  · have hb : bad = false := by simpa using h
    refine hl_on rfl rfl <| hl_val (ov_move rfl) rfl rfl rfl <|
      hl_on rfl rfl <| hl_val (ov_nil rfl) rfl rfl rfl <|
      hl_on rfl rfl <| hl_val (ov_fieldA rfl) rfl rfl rfl <|
      hl_on rfl rfl <| hl_val (ov_fieldA rfl) rfl rfl rfl <|
      hl_on rfl rfl <| hl_val (ov_load rfl (CellIs.blk rfl)) rfl rfl rfl <|
      hl_on rfl rfl <| hl_val (by first | exact ov_len rfl | exact ov_lenS rfl) rfl rfl rfl <| ?_
    refine hl_on rfl rfl <| hl_val (ov_eql rfl rfl) rfl rfl rfl <| ?_
    refine hl_part (t := 16) rfl (fun h2 => ?_) (fun h2 => ?_)
    · have h3 : xs = [] := List.eq_nil_of_length_eq_zero (by omega)
      refine hl_val (ov_pickT rfl rfl) rfl rfl rfl <|
        hl_val (ov_assign rfl) rfl rfl rfl <|
        hl_nil <|
        hx_then_normal <|
        hc_ret <| ?_
      exact results_1 (.inr rfl) rfl rfl fun w' H' => ⟨bT ⟨hb, h3⟩, rfl, H'⟩
    · refine hl_val (ov_pickT rfl rfl) rfl rfl rfl <|
        hl_val (ov_assign rfl) rfl rfl rfl <|
        hl_nil <|
        hx_then_normal <|
        hc_ret <| ?_
      exact results_1 (.inr rfl) rfl rfl fun w' H' => ⟨bF (fun h => h2 (by rw [h.2]; rfl)), rfl, H'⟩
  · have hb : ¬ bad = false := by simpa using h
    refine hl_off rfl rfl rfl rfl rfl rfl <|
      hl_off rfl rfl rfl rfl rfl rfl <|
      hl_off rfl rfl rfl rfl rfl rfl <|
      hl_off rfl rfl rfl rfl rfl rfl <|
      hl_off rfl rfl rfl rfl rfl rfl <|
      hl_off rfl rfl rfl rfl rfl rfl <| ?_
    refine hl_off rfl rfl rfl rfl rfl rfl <|
      hl_val (ov_pickF rfl rfl) rfl rfl rfl <|
      hl_val (ov_assign rfl) rfl rfl rfl <|
      hl_nil <|
      hx_then_normal <|
      hc_ret <| ?_
    exact results_1 (.inr rfl) rfl rfl fun w' H' => ⟨bF (fun h => hb h.1), rfl, H'⟩
attribute [irreducible] getS getN
end Go.Proofs.Ytpgpfcplchaleaa
