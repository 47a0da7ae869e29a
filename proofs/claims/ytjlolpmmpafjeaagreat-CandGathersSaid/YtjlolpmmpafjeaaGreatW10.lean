import Derived.Test.YtjlolpmmpafjeaaGreatW09
import Derived.Test.YtjlolpmmpafjeaaGreatW04
set_option linter.unusedVariables false
set_option linter.unusedSimpArgs false
namespace Go.Proofs.YtjlolpmmpafjeaaGreat
open Slk
instance : DecidableEq PortC := inferInstanceAs (DecidableEq (Bool × UInt32 × Int))
instance : DecidableEq VlanC := inferInstanceAs (DecidableEq (Int × UInt8 × UInt8))
instance : DecidableEq StatC := inferInstanceAs (DecidableEq (UInt64 × Int × Int))
instance dLP : DecidableEq (List PortC) := inferInstance
instance dLV : DecidableEq (List VlanC × List StatC) := inferInstance
instance dLT : DecidableEq (List PortC × List VlanC × List StatC) := @instDecidableEqProd _ _ dLP dLV
instance dL1 : DecidableEq (Int × List PortC × List VlanC × List StatC) := @instDecidableEqProd _ _ _ dLT
instance dL2 : DecidableEq (Int × Int × List PortC × List VlanC × List StatC) := @instDecidableEqProd _ _ _ dL1
instance decEqC : DecidableEq ConfC := @instDecidableEqProd _ _ _ dL2
instance : DecidableEq (ConfC × Int) := fun a b => if h : a.1 = b.1 ∧ a.2 = b.2 then .isTrue (Prod.ext h.1 h.2) else .isFalse fun e => h ⟨congrArg Prod.fst e, congrArg Prod.snd e⟩
instance decTimes (c : ConfC) : Decidable (timesP c) := inferInstanceAs (Decidable (0 ≤ c.1 ∧ c.1 ≤ 61440 ∧ c.1 % 4096 = 0 ∧ 6 ≤ c.2.1 ∧ c.2.1 ≤ 40 ∧ 4 ≤ c.2.2.1 ∧ c.2.2.1 ≤ 30 ∧ c.2.1 ≤ 2 * (c.2.2.1 - 1)))
instance decVlan (n : Nat) (v : VlanC) : Decidable (vlanOk n v) := inferInstanceAs (Decidable (1 ≤ v.1 ∧ v.1 ≤ 4094 ∧ v.2.1.toNat < 2 ^ n ∧ v.2.2 &&& ~~~ v.2.1 = 0))
instance decRis {α : Type} (c : α → α → Int) (l : List α) : Decidable (risP c l) := inferInstanceAs (Decidable (∀ i (h : i < l.length), 0 < i → c (l[i - 1]'(by omega)) l[i] < 0))
instance decVlans (c : ConfC) : Decidable (vlansP c) := inferInstanceAs (Decidable (1 ≤ c.2.2.2.2.1.length ∧ c.2.2.2.2.1.length ≤ 16 ∧ (∀ i (h : i < c.2.2.2.2.1.length), vlanOk c.2.2.2.1.length c.2.2.2.2.1[i]) ∧ risP cV c.2.2.2.2.1))
instance decPort (l : List VlanC) (p : PortC) : Decidable (portOk l p) := inferInstanceAs (Decidable ((∃ i, ∃ h : i < l.length, l[i].1 = p.2.2) ∧ 1 ≤ p.2.1.toNat ∧ p.2.1.toNat ≤ 200000000))
instance decPorts (c : ConfC) : Decidable (portsP c) := inferInstanceAs (Decidable (1 ≤ c.2.2.2.1.length ∧ c.2.2.2.1.length ≤ 8 ∧ ∀ i (h : i < c.2.2.2.1.length), portOk c.2.2.2.2.1 c.2.2.2.1[i]))
instance decStat (np : Nat) (l : List VlanC) (s : StatC) : Decidable (statOk np l s) := inferInstanceAs (Decidable (s.1.toNat ≠ 0 ∧ s.1.toNat / 2 ^ 48 = 0 ∧ s.1.toNat / 2 ^ 40 % 2 = 0 ∧ 0 ≤ s.2.2 ∧ s.2.2 < np ∧ ∃ i, ∃ h : i < l.length, l[i].1 = s.2.1 ∧ l[i].2.1.toNat / 2 ^ (min s.2.2.toNat 8) % 2 ≠ 0))
instance decGood (c : ConfC) : Decidable (goodP c) := inferInstanceAs (Decidable (timesP c ∧ vlansP c ∧ portsP c ∧ c.2.2.2.2.2.length ≤ 16 ∧ risP byPl c.2.2.2.2.2 ∧ ∀ i (h : i < c.2.2.2.2.2.length), statOk c.2.2.2.1.length c.2.2.2.2.1 c.2.2.2.2.2[i]))
theorem EditR.ok {c d : ConfC} {l : List EditC} {r : ConfC × Int} (h : EditR c l r) (hc : goodP c) (hl : l.length ≤ 32) (hf : foldC c l = (d, 0)) (hd : goodP d) : r = (d, 0) :=
  h.det (.inr (.inr (.inr (.inr ⟨hc, hl, by rw [hf], by rw [hf]; exact hd, by rw [hf]⟩))))
theorem EditR.no {c d : ConfC} {l : List EditC} {r : ConfC × Int} (h : EditR c l r) (hc : goodP c) (hl : l.length ≤ 32) (hf : foldC c l = (d, 0)) (hd : ¬ goodP d) : r = (zeroC, 14) :=
  h.det (.inr (.inr (.inr (.inl ⟨hc, hl, by rw [hf], by rw [hf]; exact hd, rfl⟩))))
theorem inI (x : Int) (h : -1000000000 ≤ x ∧ x ≤ 1000000000) : inI64 x := by unfold inI64; omega
theorem editOk1 (e : EditC) (h1 : -1000000000 ≤ e.1 ∧ e.1 ≤ 1000000000) (h2 : -1000000000 ≤ e.2.1 ∧ e.2.1 ≤ 1000000000) (h3 : inI64 e.2.2.1) (h4 : -1000000000 ≤ e.2.2.2.1 ∧ e.2.2.2.1 ≤ 1000000000) : Flat.ok e := ⟨inI _ h1, inI _ h2, h3, inI _ h4⟩
theorem firstC_ok (n : Nat) (hn : n ≤ 8) : OkC (firstC n) := by
  have hl : (firstC n).2.2.2.1.length = n := List.length_replicate
  refine ⟨(show inI64 32768 from inI _ ⟨by decide, by decide⟩), (show inI64 20 from inI _ ⟨by decide, by decide⟩), (show inI64 15 from inI _ ⟨by decide, by decide⟩), fun x hx => ?_, fun x hx => ?_, (fun x hx => by cases hx), (by rw [hl]; omega), (show 1 ≤ 1000 by decide), (show 0 ≤ 1000 by decide)⟩
  · obtain rfl := List.eq_of_mem_replicate hx
    exact inI 1 ⟨by decide, by decide⟩
  · have : x = (1, UInt8.ofNat (2 ^ n - 1), 0) := by simpa [firstC] using hx
    subst this
    exact inI 1 ⟨by decide, by decide⟩
theorem firstC_good' : ∀ n : Fin 9, 1 ≤ n.val → goodP (firstC n.val) := by decide +kernel
theorem firstC_good (n : Nat) (h1 : 1 ≤ n) (h2 : n ≤ 8) : goodP (firstC n) := firstC_good' ⟨n, by omega⟩ h1
theorem editR_ok {c : ConfC} {l : List EditC} {r : ConfC × Int} (h : EditR c l r) (hc : OkC c) (hl : ∀ x ∈ l, Flat.ok x) : OkC r.1 := by
  have hz := zeroC_ok
  have hm : ∀ (l : List EditC) (k : Nat) (c : ConfC), (∀ x ∈ l, Flat.ok x) → Mid c k → (foldC c l).2 = 0 → Mid (foldC c l).1 (k + l.length) := by
    intro l
    induction l with
    | nil => intro k c _ hc _; exact hc
    | cons e r ih =>
      intro k c hl hc h0
      simp only [foldC] at h0 ⊢
      by_cases he : (oneC c e).2 = 0
      · rw [if_pos he] at h0 ⊢
        have := ih (k + 1) _ (fun x hx => hl x (by simp [hx])) (hc.one (hl e (by simp))) h0
        rw [List.length_cons, show k + (r.length + 1) = k + 1 + r.length by omega]
        exact this
      · rw [if_neg he] at h0
        exact absurd h0 he
  rcases h with ⟨h1, h2⟩ | ⟨h1, h2, h3⟩ | ⟨h1, h2, h3, h4⟩ | ⟨h1, h2, h3, h4, h5⟩ | ⟨h1, h2, h3, h4, h5⟩
  · rw [h2]; exact hz
  · rw [h3]; exact hz
  · rw [h4]; exact hz
  · rw [h5]; exact hz
  · rw [h5]
    exact (hm l 0 c hl (h1.mid hc.i1 hc.i2 hc.i3 hc.p hc.v hc.s) h3).okC (by omega)
end Go.Proofs.YtjlolpmmpafjeaaGreat
set_option linter.unusedVariables false
set_option linter.unusedSimpArgs false
namespace Go.Proofs.YtjlolpmmpafjeaaGreat
open Slk
instance : ReadsAs Tryz.prog 81 EditC := ReadsAs.structG 0 (by kernel_rfl) rfl (ReadsG.cons 0 (ReadsG.cons 1 (ReadsG.cons 2 (ReadsG.cons 3 (ReadsG.cons 4 (ReadsG.cons 5 (ReadsG.last 6 (by decide))))))))
end Go.Proofs.YtjlolpmmpafjeaaGreat
set_option linter.unusedVariables false
set_option linter.unusedSimpArgs false
namespace Go.Proofs.YtjlolpmmpafjeaaGreat
open Slk
abbrev okEds (l : List EditC) : Prop := l.length ≤ 32 ∧ ∀ i (h : i < l.length), goodE l[i]
theorem cfgB_len (c : ConfC) : (cfgB c).length = 7 + 7 * c.2.2.2.1.length + 4 * c.2.2.2.2.1.length + 9 * c.2.2.2.2.2.length := by
  simp only [cfgB, headB, List.length_append, beB_len, flat_len (f := portB) (sz := 7) portB_len, flat_len (f := vlanB) (sz := 4) vlanB_len, flat_len (f := statB) (sz := 9) statB_len]
  omega
theorem edsB_len (l : List EditC) : (edsB l).length = 1 + 16 * l.length := by
  simp only [edsB, List.length_append, beB_len, flat_len (f := edB) (sz := 16) edB_len]
  omega
end Go.Proofs.YtjlolpmmpafjeaaGreat
set_option linter.unusedVariables false
set_option linter.unusedSimpArgs false
namespace Go.Proofs.YtjlolpmmpafjeaaGreat
open Slk
/-! ### Bytes tell what was written -/
end Go.Proofs.YtjlolpmmpafjeaaGreat
set_option linter.unusedVariables false
set_option linter.unusedSimpArgs false
namespace Go.Proofs.YtjlolpmmpafjeaaGreat
open Slk
/-! ### What is left to read -/
structure RS where
  rem : List UInt8
  v : Value
  bad : Bool
def cutV (v : Value) (k : Nat) : Value := match v with
  | .slice A n c => .slice (if c = k then A else A.map (·.add (k * 1))) (n - k) (c - k)
  | v => v
def numB (xs : List UInt8) : Nat := xs.foldl (fun n c => n * 256 + c.toNat) 0
theorem numB_snoc (xs : List UInt8) (k : Nat) (h : k < xs.length) : numB (xs.take (k + 1)) = numB (xs.take k) * 256 + xs[k].toNat := by
  unfold numB
  rw [List.take_succ_eq_append_getElem h, List.foldl_append]; rfl
theorem numB_lt (xs : List UInt8) (k : Nat) (hk : k ≤ xs.length) : numB (xs.take k) < 256 ^ k := by
  induction k with
  | zero => simp [numB]
  | succ k ih =>
    rw [numB_snoc xs k (by omega)]
    have := ih (by omega)
    have hb := xs[k].toNat_lt
    rw [Nat.pow_succ]; omega
def getN (s : RS) (k : Nat) : Nat := if s.rem.length < k then 0 else numB (s.rem.take k)
def getS (s : RS) (k : Nat) : RS := if s.rem.length < k then ⟨[], .slice none 0 0, true⟩ else ⟨s.rem.drop k, cutV s.v k, s.bad⟩
theorem old_get {D : Nat → Prop} {w : World} {s : RS} (k : Nat) (h : Old D w (Rep.rep s.rem [s.v])) : Old D w (Rep.rep (getS s k).rem [(getS s k).v]) := by
  unfold getS
  split
  · exact Old.nil
  rename_i hk
  obtain ⟨A, c, hv, _⟩ := h.openB
  refine h.imp fun x hx => ?_
  have hx : Rep.rep s.rem [s.v] x := hx
  rw [hv] at hx
  have := rep_cut hx k s.rem.length (by omega) (Nat.le_refl _)
  rw [hv]
  have e : (s.rem.drop k).take (s.rem.length - k) = s.rem.drop k := List.take_of_length_le (by simp)
  rw [e] at this
  exact this
theorem getN_lt (s : RS) (k : Nat) : getN s k < 256 ^ k := by
  unfold getN
  split
  · exact Nat.pow_pos (by decide)
  exact numB_lt _ _ (by omega)
theorem or_byte64 (a b : Nat) (ha : a < 72057594037927936) (hb : b < 256) : IntKind.u64.wrap (BitVec.ofInt 64 (((a * 256 : Nat) : Int)) ||| BitVec.ofInt 64 (b : Int)).toNat = ((a * 256 + b : Nat) : Int) := by
  have e1 : BitVec.ofInt 64 ((a * 256 : Nat) : Int) = BitVec.ofNat 64 (a * 256) := rfl
  have e2 : BitVec.ofInt 64 (b : Int) = BitVec.ofNat 64 b := rfl
  rw [e1, e2, BitVec.toNat_or, BitVec.toNat_ofNat, BitVec.toNat_ofNat]
  rw [Nat.mod_eq_of_lt (by omega), Nat.mod_eq_of_lt (by omega)]
  have := Nat.two_pow_add_eq_or_of_lt (i := 8) (b := b) (by omega) a
  rw [show a * 256 = 2 ^ 8 * a by omega, ← this]
  exact wrap_u64 (by omega)
theorem cut_zero (c : Prop) [Decidable c] (A : Option Addr) (s : Nat) : (if c then A else A.map (·.add (0 * s))) = A := by
  split
  · rfl
  cases A with
  | none => rfl
  | some a => simp [Addr.add]
theorem ov_sliceR {P : Program} {D : Nat → Prop} {w0 : World} {env : Slots} {l : List HProp} {dst : Option Tmp} {ty : TypeId} {pos : String} {after : Array Edge} {g : Option (Nat × Bool)} {t e : TypeId} {s bb : Nat} {z : List Value} [h : TySlice P t e] [hs : TyI P e s bb z] {x : Operand} {ol oh : Option Operand} {A : Option Addr} {n cap : Nat} (hx : evalO env x = some (.slice A n cap)) (lo hi : Nat)
    (hl : (ol = none ∧ lo = 0) ∨ ∃ o k, ol = some o ∧ evalO env o = some (.int k lo)) (hh : (oh = none ∧ hi = n) ∨ ∃ o k, oh = some o ∧ evalO env o = some (.int k hi)) (h1 : lo ≤ hi) (h2 : hi ≤ cap) {R : Value} (hR : Value.slice (if cap = lo then A else A.map (·.add (lo * s))) (hi - lo) (cap - lo) = R) :
    OpVal P D w0 env l ⟨dst, .slice t x ol oh none, ty, pos, after, g⟩ R := hR ▸ ov_slice hx lo hi hl hh h1 h2
theorem get_spec (D : Nat → Prop) (w : World) (g t k : Nat) (s : RS) (hk : k ≤ 6) (H : Own D w w [blk g t [s.v, .bool s.bad]]) (HA : Old D w (Rep.rep s.rem [s.v])) :
    Calls Tryz.prog 114 #[.pointer (some ⟨g, 0, none⟩), .int .i64 k] w fun e w' => e = .returned (.int .u64 (getN s k)) ∧ Own D w w' [blk g t [(getS s k).v, .bool (getS s k).bad]] := by
  obtain ⟨A, cap, hv, hc1, hc2, HS⟩ := HA.openB
  obtain ⟨xs, v, bad⟩ := s
  dsimp only at *
  subst hv
  unfold getN getS
  dsimp only
  refine hc_enter (vs := [.pointer (some ⟨g, 0, none⟩), .int .i64 k]) Tryz.func114 rfl _ Tryz.ntmps114 rfl H ?_
  simp only [argSlots, Nat.zero_add]
  refine zg <| hl_v (ov_assign rfl) rfl <| zn <| hc_seq <| ?_
  refine zg <| hl_v (ov_move rfl) rfl <| hl_v (ov_nil rfl) rfl <| hl_v (ov_fieldA rfl) rfl <| hl_v (ov_load rfl (CellIs.blk rfl)) rfl <| ?_
  refine hl_v za15 rfl <| ?_
  refine hl_v (ov_move rfl) rfl <| hl_v (ov_lss rfl rfl) rfl <| zn <| ?_
  refine hc_cond rfl (fun h => ?_) (fun h => ?_)
  · have hlt : xs.length < k := by omega
    rw [if_pos hlt, if_pos hlt]
    refine zg <| hl_v (ov_move rfl) rfl <| hl_v (ov_move rfl) rfl <| hl_v (ov_nil rfl) rfl <| hl_v (ov_fieldA rfl) rfl <| ?_
    refine hl_u0 (on_storeN rfl rfl rfl rfl rfl) rfl rfl <| hl_v (ov_nil rfl) rfl <| hl_v (ov_fieldA rfl) rfl <| hl_u0 (on_storeN rfl rfl rfl rfl rfl) rfl rfl <| zn <| ?_
    refine zg <| hl_v (ov_assign rfl) rfl <| zn <| hc_ret <| ?_
    refine hx_then_ret <| ?_
    exact results_1 (.inr rfl) rfl rfl fun w' H' => ⟨rfl, H'⟩
  have hge : ¬ xs.length < k := by omega
  rw [if_neg hge, if_neg hge]
  refine zk <| zg <| hl_v (ov_assign rfl) rfl <| hl_nil <| ?_
  refine hx_then_normal <| hc_seq <| zg <| hl_v (ov_move rfl) rfl <| hl_v (ov_nil rfl) rfl <| ?_
  refine hl_v (ov_fieldA rfl) rfl <| hl_v (ov_load rfl (CellIs.blk rfl)) rfl <| hl_v (ov_move rfl) rfl <| ?_
  refine hl_v (ov_sliceR rfl 0 k (.inl ⟨rfl, rfl⟩) (.inr ⟨_, _, rfl, rfl⟩) (Nat.zero_le _) (by omega) (R := .slice A k cap) (by rw [cut_zero]; rfl)) rfl ?_
  refine hl_v za15 rfl <| ?_
  refine hl_v (ov_move rfl) rfl <| zn <| hc_block <| ?_
  refine hc_loops2 (σ := Nat) [0, 1, 26, 27] rfl 28 (fun i => .int .i64 (i : Int)) 5 (fun i => .int .u64 ((numB (xs.take i) : Nat) : Int)) (fun i => i ≤ k) (fun i => k - i) (0) (Nat.zero_le _) rfl rfl ?_
  rintro i hj K1 hK1
  refine zg <| hl_v (ov_lss rfl rfl) rfl <| zn <| hc_seq <| ?_
  refine hc_cond rfl (fun h2 => ?_) (fun h2 => ?_)
  · have hlt : i < xs.length := by omega
    have hA : isA A := HS.isA za17
    have hcell : CellIs D w [blk g t [.slice A xs.length cap, .bool bad]] (ab A) (ao A + i * 1) (u8v xs[i]) := by
      rw [Nat.mul_one]
      exact (SrcIs.old HS).cell (by simp [hlt])
    have hx := xs[i].toNat_lt
    have hsn := numB_snoc xs i hlt
    have hb := numB_lt xs i (by omega)
    have hb3 : numB (xs.take i) < 72057594037927936 := Nat.lt_of_lt_of_le hb (by have : 256 ^ i ≤ 256 ^ 7 := Nat.pow_le_pow_right (by decide) (by omega); exact this)
    obtain ⟨m, hm⟩ : ∃ m, m = numB (xs.take i) := ⟨_, rfl⟩
    rw [← hm] at hsn hb3
    unfold u8v at hcell
    refine zk <| hc_seq <| hc_block <| zg <| ?_
    refine hl_v (ov_idxS rfl (by assumption) rfl _ rfl (by omega)) rfl <| hl_v za5 rfl <| ?_
    refine hl_v (ov_assign rfl) rfl <| zn <| hc_region <| hl_v (ov_move rfl) rfl <| ?_
    refine hl_v (ov_shl (m := ((m * 256 : Nat) : Int)) rfl rfl (by decide) (by rw [← hm]; show IntKind.u64.wrap ((m : Int) * 256) = _; rw [show (m : Int) * 256 = ((m * 256 : Nat) : Int) by omega]; exact wrap_u64 (by omega))) rfl ?_
    refine hl_v (ov_move rfl) rfl <| hl_v (ov_conv rfl za19) rfl <| ?_
    refine hl_v (ov_or (m := ((numB (xs.take (i + 1)) : Nat) : Int)) rfl rfl (by rw [hsn]; exact or_byte64 m _ hb3 hx)) rfl ?_
    refine hl_v (ov_assign rfl) rfl <| hl_nil <| hx_block_normal <| hx_then_normal <| hc_region <| hl_v (ov_add rfl rfl za18) rfl <| ?_
    refine hl_v (ov_move rfl) rfl <| hl_nil <| ?_
    refine hx_next hK1 (i + 1) (by omega) (by omega) za9 za6
  have hik : i = k := by omega
  subst hik
  refine hc_exit <| hx_then_exit <| hx_then_exit <| hx_block_out <| hx_then_normal <| hc_seq <| ?_
  refine hc_region <| hl_v (ov_move rfl) rfl <| hl_v (ov_move rfl) rfl <| hl_v (ov_nil rfl) rfl <| hl_v (ov_fieldA rfl) rfl <| hl_v (ov_load rfl (CellIs.blk rfl)) rfl <| ?_
  refine hl_v (ov_move rfl) rfl <| hl_v (ov_slice rfl _ _ (.inr ⟨_, _, rfl, rfl⟩) (.inl ⟨rfl, rfl⟩) (by omega) (by omega)) rfl <| hl_v (ov_nil rfl) rfl <| hl_v (ov_fieldA rfl) rfl <| ?_
  refine hl_u0 (on_storeE [cutV (.slice A xs.length cap) i, .bool bad] rfl rfl (by simp) rfl rfl) rfl rfl ?_
  refine zn <| zg <| hl_v (ov_move rfl) rfl <| hl_v (ov_assign rfl) rfl <| ?_
  refine zn <| hc_ret <| ?_
  exact results_1 (.inr rfl) rfl rfl fun w' H' => ⟨rfl, H'⟩
theorem int_spec (D : Nat → Prop) (w : World) (g t k : Nat) (s : RS) (hk : k ≤ 6) (H : Own D w w [blk g t [s.v, .bool s.bad]]) (HA : Old D w (Rep.rep s.rem [s.v])) :
    Calls Tryz.prog 113 #[.pointer (some ⟨g, 0, none⟩), .int .i64 k] w fun e w' => e = .returned (.int .i64 (getN s k)) ∧ Own D w w' [blk g t [(getS s k).v, .bool (getS s k).bad]] := by
  have hb := getN_lt s k
  have hb3 : getN s k < 281474976710656 := Nat.lt_of_lt_of_le hb (by have : 256 ^ k ≤ 256 ^ 6 := Nat.pow_le_pow_right (by decide) hk; exact this)
  refine hc_enter (vs := [.pointer (some ⟨g, 0, none⟩), .int .i64 k]) Tryz.func113 rfl _ Tryz.ntmps113 rfl H ?_
  simp only [argSlots, Nat.zero_add]
  refine zg <| hl_v (ov_assign rfl) rfl <| zn <| hc_seq <| ?_
  refine hc_region <| hl_v (ov_move rfl) rfl <| hl_v (ov_move rfl) rfl <| ?_
  refine hl_c Tryz.call114 rfl rfl (fun w1 H1 => Own.callp (blk g t [s.v, .bool s.bad]) H1 fun D' hold hin H2 => get_spec D' w1 g t k s hk H2 (hold _ HA)) ?_
  refine hl_v (ov_conv rfl za18) rfl <| ?_
  refine hl_v (ov_assign rfl) rfl <| zn <| hc_ret <| ?_
  exact results_1 (.inr rfl) rfl rfl fun w' H' => ⟨rfl, H'⟩
theorem ended_spec (D : Nat → Prop) (w : World) (g t : Nat) (s : RS) (H : Own D w w [blk g t [s.v, .bool s.bad]]) (HA : Old D w (Rep.rep s.rem [s.v])) :
    Calls Tryz.prog 76 #[.pointer (some ⟨g, 0, none⟩)] w fun e w' => ∃ b : BIff (s.bad = false ∧ s.rem = []), e = .returned (.bool b.1) ∧ Own D w w' [blk g t [s.v, .bool s.bad]] := by
  obtain ⟨A, cap, hv, hc1, hc2, HS⟩ := HA.openB
  obtain ⟨xs, v, bad⟩ := s
  dsimp only at *
  subst hv
  refine hc_enter (vs := [.pointer (some ⟨g, 0, none⟩)]) Tryz.func76 rfl _ Tryz.ntmps76 rfl H ?_
  simp only [argSlots, Nat.zero_add]
  refine zg <| hl_v (ov_assign rfl) rfl <| zn <| hc_seq <| ?_
  refine hc_region <| hl_v (ov_move rfl) rfl <| hl_v (ov_nil rfl) rfl <| hl_v (ov_fieldA rfl) rfl <| hl_v (ov_fieldA rfl) rfl <| hl_v (ov_load rfl (CellIs.blk rfl)) rfl <| ?_
  refine hl_v za16 rfl <| ?_
  refine hl_v (ov_move rfl) rfl <| ?_
  refine hl_partb (t := 9) rfl (fun h => ?_) (fun h => ?_)
  · have hb : bad = false := by simpa using h
    refine hl_on rfl rfl <| hl_v (ov_move rfl) rfl <| hl_on rfl rfl <| hl_v (ov_nil rfl) rfl <| hl_on rfl rfl <| hl_v (ov_fieldA rfl) rfl <| hl_on rfl rfl <| hl_v (ov_fieldA rfl) rfl <| hl_on rfl rfl <| hl_v (ov_load rfl (CellIs.blk rfl)) rfl <| hl_on rfl rfl <| hl_v za15 rfl <| ?_
    refine hl_on rfl rfl <| hl_v (ov_eql rfl rfl) rfl <| ?_
    refine hl_part (t := 16) rfl (fun h2 => ?_) (fun h2 => ?_)
    · have h3 : xs = [] := List.eq_nil_of_length_eq_zero (by omega)
      refine hl_v (ov_pickT rfl rfl) rfl <| hl_v (ov_assign rfl) rfl <| zn <| hc_ret <| ?_
      exact results_1 (.inr rfl) rfl rfl fun w' H' => ⟨bT ⟨hb, h3⟩, rfl, H'⟩
    refine hl_v (ov_pickT rfl rfl) rfl <| hl_v (ov_assign rfl) rfl <| zn <| hc_ret <| ?_
    exact results_1 (.inr rfl) rfl rfl fun w' H' => ⟨bF (fun h => h2 (by rw [h.2]; rfl)), rfl, H'⟩
  have hb : ¬ bad = false := by simpa using h
  refine hl_off rfl rfl rfl rfl rfl rfl <| hl_off rfl rfl rfl rfl rfl rfl <| hl_off rfl rfl rfl rfl rfl rfl <| hl_off rfl rfl rfl rfl rfl rfl <| hl_off rfl rfl rfl rfl rfl rfl <| hl_off rfl rfl rfl rfl rfl rfl <| ?_
  refine hl_off rfl rfl rfl rfl rfl rfl <| hl_v (ov_pickF rfl rfl) rfl <| hl_v (ov_assign rfl) rfl <| zn <| hc_ret <| ?_
  exact results_1 (.inr rfl) rfl rfl fun w' H' => ⟨bF (fun h => hb h.1), rfl, H'⟩
attribute [irreducible] getS getN
end Go.Proofs.YtjlolpmmpafjeaaGreat

set_option linter.unusedVariables false
set_option linter.unusedSimpArgs false
namespace Go.Proofs.YtjlolpmmpafjeaaGreat
open Slk
/-! ### Edits are read -/
def rdE (s : RS) : EditC × RS :=
  let s1 := getS s 1
  let s2 := getS s1 1
  let s3 := getS s2 4
  let s4 := getS s3 2
  let s5 := getS s4 1
  let s6 := getS s5 1
  ((getN s 1, getN s1 1, getN s2 4, getN s3 2, UInt8.ofNat (getN s4 1), UInt8.ofNat (getN s5 1), UInt64.ofNat (getN s6 6)), getS s6 6)
def rdEs : Nat → RS → List EditC × RS
  | 0, s => ([], s)
  | i + 1, s => ((rdEs i s).1 ++ [(rdE (rdEs i s).2).1], (rdE (rdEs i s).2).2)
theorem rdEs_len (i : Nat) (s : RS) : (rdEs i s).1.length = i := by
  induction i with
  | zero => rfl
  | succ i ih => simp [rdEs, ih]
theorem old_rdE {D : Nat → Prop} {w : World} {s : RS} (h : Old D w (Rep.rep s.rem [s.v])) : Old D w (Rep.rep (rdE s).2.rem [(rdE s).2.v]) := old_get 6 (old_get 1 (old_get 1 (old_get 2 (old_get 4 (old_get 1 (old_get 1 h))))))
theorem old_rdEs {D : Nat → Prop} {w : World} {s : RS} (i : Nat) (h : Old D w (Rep.rep s.rem [s.v])) : Old D w (Rep.rep (rdEs i s).2.rem [(rdEs i s).2.v]) := by
  induction i with
  | zero => exact h
  | succ i ih => exact old_rdE ih
theorem rdE_cells (s : RS) : editV (rdE s).1 = [.int .i64 (getN s 1), .int .i64 (getN (getS s 1) 1), .int .i64 (getN (getS (getS s 1) 1) 4), .int .i64 (getN (getS (getS (getS s 1) 1) 4) 2), .int .u8 ((getN (getS (getS (getS (getS s 1) 1) 4) 2) 1 % 256 : Nat) : Int), .int .u8 ((getN (getS (getS (getS (getS (getS s 1) 1) 4) 2) 1) 1 % 256 : Nat) : Int), .int .u64 (getN (getS (getS (getS (getS (getS (getS s 1) 1) 4) 2) 1) 1) 6)] := by
  have h : getN (getS (getS (getS (getS (getS (getS s 1) 1) 4) 2) 1) 1) 6 < 18446744073709551616 := Nat.lt_of_lt_of_le (getN_lt _ 6) (by decide)
  show [_, _, _, _, u8v (UInt8.ofNat _), u8v (UInt8.ofNat _), _] = _
  rw [u8v_ofNat, u8v_ofNat]
  simp only [rdE, UInt64.toNat_ofNat']
  rw [Nat.mod_eq_of_lt h]
theorem redits_spec (D : Nat → Prop) (w : World) (g t : Nat) (s : RS) (H : Own D w w [blk g t [s.v, .bool s.bad]]) (HA : Old D w (Rep.rep s.rem [s.v])) :
    Calls Tryz.prog 125 #[.pointer (some ⟨g, 0, none⟩)] w fun e w' => ∃ q : Option Addr × Nat, e = .returned (.slice q.1 (getN s 1) q.2) ∧ Own D w w' [row q.1 81 7 (getN s 1) q.2 ((rdEs (getN s 1) (getS s 1)).1.flatMap editV), blk g t [(rdEs (getN s 1) (getS s 1)).2.v, .bool (rdEs (getN s 1) (getS s 1)).2.bad]] := by
  have hn : getN s 1 < 256 := getN_lt s 1
  refine hc_enter (vs := [.pointer (some ⟨g, 0, none⟩)]) Tryz.func125 rfl _ Tryz.ntmps125 rfl H ?_
  simp only [argSlots, Nat.zero_add]
  refine zg <| hl_v (ov_assign rfl) rfl <| zn <| hc_seq <| ?_
  refine hc_region <| hl_v (ov_assign rfl) rfl <| zn <| hc_seq <| hc_seq <| ?_
  refine hc_region <| hl_v (ov_move rfl) rfl <| hl_v (ov_nil rfl) rfl <| hl_v (ov_fieldA rfl) rfl <| ?_
  refine hl_c Tryz.call113 rfl rfl (fun w1 H1 => Own.callp (blk g t [s.v, .bool s.bad]) H1 fun D' hold hin H2 => int_spec D' w1 g t 1 s (by decide) H2 (hold _ HA)) ?_
  have HA1 := old_get 1 HA
  generalize getS s 1 = s1 at *
  generalize getN s 1 = n at *
  refine hl_v (ov_move rfl) rfl <| zn <| hc_block <| ?_
  refine hc_loopK2 (σ := Nat × Option Addr × Nat) [0, 7] rfl 8 (fun q => .int .i64 (q.1 : Int)) 3 (fun q => .slice q.2.1 q.1 q.2.2) (fun q => [row q.2.1 81 7 q.1 q.2.2 ((rdEs q.1 s1).1.flatMap editV), blk g t [(rdEs q.1 s1).2.v, .bool (rdEs q.1 s1).2.bad]]) (fun q => q.1 ≤ n) (fun q => n - q.1) ((0, none, 0)) (Nat.zero_le _) rfl rfl (Ent.nil_row 81 7) ?_
  rintro ⟨i, A, c⟩ hi K1 hK1
  dsimp only at hi ⊢
  have HAi := old_rdEs i HA1
  refine zg <| hl_v (ov_lss rfl rfl) rfl <| zn <| hc_seq <| ?_
  refine hc_cond rfl (fun h => ?_) (fun h => ?_)
  · have hlt : i < n := by omega
    have hce := rdE_cells (rdEs i s1).2
    have hs7 : (rdEs (i + 1) s1).2 = getS (getS (getS (getS (getS (getS (getS (rdEs i s1).2 1) 1) 4) 2) 1) 1) 6 := rfl
    have hl7 : (rdEs i s1).1.flatMap editV ++ editV (rdE (rdEs i s1).2).1 = (rdEs (i + 1) s1).1.flatMap editV := by
      show _ = ((rdEs i s1).1 ++ [(rdE (rdEs i s1).2).1]).flatMap editV
      rw [List.flatMap_append, List.flatMap_singleton]
    generalize (rdEs i s1).2 = r0 at *
    have K0 := HAi
    have K1 := old_get 1 K0
    have K2 := old_get 1 K1
    have K3 := old_get 4 K2
    have K4 := old_get 2 K3
    have K5 := old_get 1 K4
    have K6 := old_get 1 K5
    refine zk <| hc_seq <| hc_block <| ?_
    refine hc_any [] mixed 35 rfl ?_
    refine ha_v 0 rfl (ov_move rfl) rfl <| ?_
    refine ha_v 1 rfl (ov_move rfl) rfl <| ?_
    refine ha_v 2 rfl (ov_nil rfl) rfl <| ?_
    refine ha_v 3 rfl (ov_fieldA rfl) rfl <| ?_
    refine ha_v 5 rfl (ov_move rfl) rfl <| ?_
    refine ha_v 6 rfl (ov_nil rfl) rfl <| ?_
    refine ha_v 7 rfl (ov_fieldA rfl) rfl <| ?_
    refine ha_v 9 rfl (ov_move rfl) rfl <| ?_
    refine ha_v 10 rfl (ov_nil rfl) rfl <| ?_
    refine ha_v 11 rfl (ov_fieldA rfl) rfl <| ?_
    refine ha_v 13 rfl (ov_move rfl) rfl <| ?_
    refine ha_v 14 rfl (ov_nil rfl) rfl <| ?_
    refine ha_v 15 rfl (ov_fieldA rfl) rfl <| ?_
    refine ha_v 17 rfl (ov_move rfl) rfl <| ?_
    refine ha_v 18 rfl (ov_nil rfl) rfl <| ?_
    refine ha_v 19 rfl (ov_fieldA rfl) rfl <| ?_
    refine ha_v 22 rfl (ov_move rfl) rfl <| ?_
    refine ha_v 23 rfl (ov_nil rfl) rfl <| ?_
    refine ha_v 24 rfl (ov_fieldA rfl) rfl <| ?_
    refine ha_v 27 rfl (ov_move rfl) rfl <| ?_
    refine ha_v 28 rfl (ov_nil rfl) rfl <| ?_
    refine ha_v 29 rfl (ov_fieldA rfl) rfl <| ?_
    refine ha_one 4 (by kernel_rfl) <| ?_
    refine ho_k rfl Tryz.call113 rfl (fun w1 H1 => Own.callp (blk g t [r0.v, .bool r0.bad]) H1 fun D' hold hin H2 => int_spec D' w1 g t 1 r0 (by decide) H2 (hold _ K0)) ?_
    refine ha_one 8 (by kernel_rfl) <| ?_
    refine ho_k rfl Tryz.call113 rfl (fun w1 H1 => Own.callp (blk g t [(getS r0 1).v, .bool (getS r0 1).bad]) H1 fun D' hold hin H2 => int_spec D' w1 g t 1 (getS r0 1) (by decide) H2 (hold _ K1)) ?_
    refine ha_one 12 (by kernel_rfl) <| ?_
    refine ho_k rfl Tryz.call113 rfl (fun w1 H1 => Own.callp (blk g t [(getS (getS r0 1) 1).v, .bool (getS (getS r0 1) 1).bad]) H1 fun D' hold hin H2 => int_spec D' w1 g t 4 (getS (getS r0 1) 1) (by decide) H2 (hold _ K2)) ?_
    refine ha_one 16 (by kernel_rfl) <| ?_
    refine ho_k rfl Tryz.call113 rfl (fun w1 H1 => Own.callp (blk g t [(getS (getS (getS r0 1) 1) 4).v, .bool (getS (getS (getS r0 1) 1) 4).bad]) H1 fun D' hold hin H2 => int_spec D' w1 g t 2 (getS (getS (getS r0 1) 1) 4) (by decide) H2 (hold _ K3)) ?_
    refine ha_one 20 (by kernel_rfl) <| ?_
    refine ho_k rfl Tryz.call114 rfl (fun w1 H1 => Own.callp (blk g t [(getS (getS (getS (getS r0 1) 1) 4) 2).v, .bool (getS (getS (getS (getS r0 1) 1) 4) 2).bad]) H1 fun D' hold hin H2 => get_spec D' w1 g t 1 (getS (getS (getS (getS r0 1) 1) 4) 2) (by decide) H2 (hold _ K4)) ?_
    refine ha_v 21 rfl (ov_conv (m := ((getN (getS (getS (getS (getS r0 1) 1) 4) 2) 1 % 256 : Nat) : Int)) rfl (wrap8 _)) rfl ?_
    refine ha_one 25 (by kernel_rfl) <| ?_
    refine ho_k rfl Tryz.call114 rfl (fun w1 H1 => Own.callp (blk g t [(getS (getS (getS (getS (getS r0 1) 1) 4) 2) 1).v, .bool (getS (getS (getS (getS (getS r0 1) 1) 4) 2) 1).bad]) H1 fun D' hold hin H2 => get_spec D' w1 g t 1 (getS (getS (getS (getS (getS r0 1) 1) 4) 2) 1) (by decide) H2 (hold _ K5)) ?_
    refine ha_v 26 rfl (ov_conv (m := ((getN (getS (getS (getS (getS (getS r0 1) 1) 4) 2) 1) 1 % 256 : Nat) : Int)) rfl (wrap8 _)) rfl ?_
    refine ha_one 30 (by kernel_rfl) <| ?_
    refine ho_k rfl Tryz.call114 rfl (fun w1 H1 => Own.callp (blk g t [(getS (getS (getS (getS (getS (getS r0 1) 1) 4) 2) 1) 1).v, .bool (getS (getS (getS (getS (getS (getS r0 1) 1) 4) 2) 1) 1).bad]) H1 fun D' hold hin H2 => get_spec D' w1 g t 6 (getS (getS (getS (getS (getS (getS r0 1) 1) 4) 2) 1) 1) (by decide) H2 (hold _ K6)) ?_
    refine ha_v 31 rfl (ov_buildSN rfl rfl) rfl <| ?_
    refine ha_one 32 (by kernel_rfl) <| ho_n rfl (on_buildSliceN rfl rfl rfl) rfl fun b42 =>  ?_
    refine ha_one 33 (by kernel_rfl) <| ?_
    rw [← hce]
    refine ho_n rfl (on_appendR (A := A) (news := editV (rdE r0).1) rfl rfl (SrcIs.blk (b := b42)) rfl za31 (by decide) (by omega)) rfl (fun q2 => ?_)
    rw [hl7, ← hs7]
    refine ha_v 34 rfl (ov_assign rfl) rfl <| ?_
    refine ha_done (by kernel_rfl) <| hx_block_normal <| hx_then_normal <| hc_region <| hl_v (ov_add rfl rfl za18) rfl <| ?_
    refine hl_v (ov_move rfl) rfl <| hl_nil <| ?_
    refine hx_next hK1 ((i + 1, q2)) (hlt) (by show n - (i + 1) < n - i; omega) za9 za6
  have hin : i = n := by omega
  subst hin
  refine hc_exit <| hx_then_exit <| hx_then_exit <| hx_block_out <| hx_then_normal <| hc_seq <| ?_
  refine hc_region <| hl_v (ov_move rfl) rfl <| hl_v (ov_assign rfl) rfl <| zn <| hc_ret <| ?_
  exact results_1 (.inr rfl) rfl rfl fun w' H' => ⟨(A, c), rfl, H'⟩
end Go.Proofs.YtjlolpmmpafjeaaGreat

set_option linter.unusedVariables false
set_option linter.unusedSimpArgs false
namespace Go.Proofs.YtjlolpmmpafjeaaGreat
open Slk
theorem getN_in (s : RS) (k : Nat) (hk : k ≤ 6) : inI64 (getN s k) := by
  have h : getN s k < 281474976710656 := Nat.lt_of_lt_of_le (getN_lt s k) (by have : 256 ^ k ≤ 256 ^ 6 := Nat.pow_le_pow_right (by decide) hk; exact this)
  unfold inI64; omega
theorem rdE_ok (s : RS) : Flat.ok (rdE s).1 := ⟨getN_in _ 1 (by decide), getN_in _ 1 (by decide), getN_in _ 4 (by decide), getN_in _ 2 (by decide)⟩
theorem rdEs_ok (i : Nat) (s : RS) : ∀ x ∈ (rdEs i s).1, Flat.ok x := by
  induction i with
  | zero => intro x hx; cases hx
  | succ i ih =>
    intro x hx
    rcases List.mem_append.1 hx with h | h
    · exact ih x h
    · rw [List.mem_singleton.1 h]; exact rdE_ok _
abbrev rdAll (s : RS) : List EditC × RS := rdEs (getN s 1) (getS s 1)
def listP (s : RS) : Prop := ((rdAll s).2.bad = false ∧ (rdAll s).2.rem = []) ∧ okEds (rdAll s).1
abbrev ListT (s : RS) := { r : (Option Addr × Nat) × List EditC × Int // (¬ listP s ∧ r.2.1 = [] ∧ r.2.2 = 11) ∨ (listP s ∧ r.2.1 = (rdAll s).1 ∧ r.2.2 = 0) }
theorem List_spec (D : Nat → Prop) (w : World) (v : Value) (xs : List UInt8) (HA : Old D w (Rep.rep xs [v])) :
    Calls Tryz.prog 80 #[v] w fun e w' => ∃ r : ListT ⟨xs, v, false⟩, e = .returned (.tuple #[.slice r.1.1.1 r.1.2.1.length r.1.1.2, .int .i64 r.1.2.2]) ∧ Own D w w' [row r.1.1.1 81 7 r.1.2.1.length r.1.1.2 (r.1.2.1.flatMap editV)] := by
  have HA0 := HA
  obtain ⟨A, cap, rfl, _⟩ := HA0.openB
  obtain ⟨s, hs⟩ : ∃ s : RS, s = ⟨xs, .slice A xs.length cap, false⟩ := ⟨_, rfl⟩
  have HA : Old D w (Rep.rep s.rem [s.v]) := by rw [hs]; exact HA
  rw [← hs]
  have hn : getN s 1 < 256 := getN_lt s 1
  have hlen : (rdAll s).1.length = getN s 1 := rdEs_len _ _
  have hok := rdEs_ok (getN s 1) (getS s 1)
  have HAe : Old D w (Rep.rep (rdAll s).2.rem [(rdAll s).2.v]) := old_rdEs _ (old_get 1 HA)
  refine hc_enter (vs := [.slice A xs.length cap]) Tryz.func80 rfl _ Tryz.ntmps80 rfl (Own.start D w) ?_
  simp only [argSlots, Nat.zero_add]
  refine zg <| hl_v (ov_assign rfl) rfl <| hl_v (ov_assign rfl) rfl <| zn <| ?_
  refine zg <| hl_v (ov_move rfl) rfl <| hl_v (ov_buildSN rfl rfl) rfl <| ?_
  refine hl_v (ov_buildSN rfl rfl) rfl <| ?_
  refine hl_new (on_boxN rfl rfl) rfl rfl rfl fun b9 =>  ?_
  refine hl_v (ov_assign rfl) rfl <| zn <| zg <| hl_v (ov_move rfl) rfl <| ?_
  refine HL.ent (show Ent _ [blk b9 165 [s.v, .bool s.bad]] by rw [hs]; exact za4) ?_
  refine hl_call (σ := Option Addr × Nat) Tryz.call125 rfl rfl (fun w1 H1 => Own.callpx (blk b9 165 [s.v, .bool s.bad]) H1 fun D' hold hin H2 => redits_spec D' w1 b9 165 s H2 (hold _ HA)) ?_
  intro q
  refine hl_v (ov_assign rfl) rfl <| zn <| hc_seq <| zg <| ?_
  refine hl_v (ov_move rfl) rfl <| ?_
  refine hl_call (σ := BIff ((rdAll s).2.bad = false ∧ (rdAll s).2.rem = [])) Tryz.call76 rfl rfl (fun w1 H1 => Own.callpx (blk b9 165 [(rdAll s).2.v, .bool (rdAll s).2.bad]) H1 fun D' hold hin H2 => ended_spec D' w1 b9 165 (rdAll s).2 H2 (hold _ HAe)) ?_
  intro r
  refine hl_v za16 rfl <| ?_
  refine hl_v (ov_move rfl) rfl <| ?_
  refine hl_partb (t := 15) rfl (fun a1 => ?_) (fun a1 => ?_)
  · have hno : ¬ listP s := fun h => by have := r.2.2 h.1; rw [this] at a1; cases a1
    refine hl_off rfl rfl rfl rfl rfl rfl <| hl_off rfl rfl rfl rfl rfl rfl <| hl_off rfl rfl rfl rfl rfl rfl <| hl_v (ov_pickT rfl rfl) rfl <| hl_v (ov_move rfl) rfl <| hl_off rfl rfl rfl rfl rfl rfl <| ?_
    refine hl_off rfl rfl rfl rfl rfl rfl <| hl_v (ov_pickT rfl rfl) rfl <| zn <| hc_cond_true rfl <| hc_seq <| ?_
    refine hc_region <| hl_v (ov_assign rfl) rfl <| hl_v (ov_assign rfl) rfl <| zn <| hc_ret <| ?_
    refine hx_then_ret <| ?_
    exact results_2 (.inr rfl) rfl rfl rfl fun w' H' => ⟨⟨((none, 0), [], 11), .inl ⟨hno, rfl, rfl⟩⟩, rfl, H'.ent (Ent.trans (Ent.nil_row 81 7) (Ent.cons (Ent.nil _)))⟩
  have hend := r.2.1 (by simpa using a1)
  refine hl_on rfl rfl <| hl_v (ov_move rfl) rfl <| hl_on rfl rfl <| hl_v za15 rfl <| ?_
  refine hl_on rfl rfl <| hl_v (ov_gtr rfl rfl) rfl <| hl_v (ov_pickF rfl rfl) rfl <| hl_v (ov_move rfl) rfl <| ?_
  refine hl_part (t := 20) rfl (fun a2 => ?_) (fun a2 => ?_)
  · have hno : ¬ listP s := fun h => by have := h.2.1; omega
    refine hl_off rfl rfl rfl rfl rfl rfl <| hl_off rfl rfl rfl rfl rfl rfl <| hl_v (ov_pickT rfl rfl) rfl <| zn <| hc_cond_true rfl <| ?_
    refine zg <| hl_v (ov_assign rfl) rfl <| hl_v (ov_assign rfl) rfl <| zn <| ?_
    refine hc_ret <| hx_then_ret <| ?_
    exact results_2 (.inr rfl) rfl rfl rfl fun w' H' => ⟨⟨((none, 0), [], 11), .inl ⟨hno, rfl, rfl⟩⟩, rfl, H'.ent (Ent.trans (Ent.nil_row 81 7) (Ent.cons (Ent.nil _)))⟩
  refine hl_on rfl rfl <| hl_v (ov_move rfl) rfl <| ?_
  refine hl_on rfl rfl <| hl_call (σ := BIff (∃ i, badE (rdAll s).1 i)) Tryz.call93 rfl rfl (fun w1 H1 => Own.callx0 H1 fun D' hold hin H2 => HasE_spec D' w1 _ (rdAll s).1 (by omega) (hin _ fun h hs ho => rep_row (A := q.1) hs (rdAll s).1 hlen.symm (repL_F.2 ⟨rfl, hok⟩))) ?_
  intro r3
  try rw [List.nil_append]
  refine hl_v (ov_pickF rfl rfl) rfl <| zn <| ?_
  refine hc_cond_bool rfl (fun a3 => ?_) (fun a3 => ?_)
  · have hno : ¬ listP s := fun h => by
      obtain ⟨i, hi, hx⟩ := r3.2.1 a3
      exact hx (h.2.2 i hi)
    refine zg <| hl_v (ov_assign rfl) rfl <| hl_v (ov_assign rfl) rfl <| zn <| ?_
    refine hc_ret <| hx_then_ret <| ?_
    exact results_2 (.inr rfl) rfl rfl rfl fun w' H' => ⟨⟨((none, 0), [], 11), .inl ⟨hno, rfl, rfl⟩⟩, rfl, H'.ent (Ent.trans (Ent.nil_row 81 7) (Ent.cons (Ent.nil _)))⟩
  have hP : listP s := ⟨hend, by omega, fun i hi => Classical.byContradiction fun hx => by
    have := r3.2.2 ⟨i, hi, hx⟩
    rw [this] at a3; cases a3⟩
  refine zk <| zg <| hl_v (ov_move rfl) rfl <| hl_v (ov_assign rfl) rfl <| ?_
  refine hl_v (ov_assign rfl) rfl <| zn <| hc_ret <| ?_
  exact results_2 (.inr rfl) rfl rfl rfl fun w' H' => ⟨⟨(q, (rdAll s).1, 0), .inr ⟨hP, rfl, rfl⟩⟩, by simp only [hlen], by simp only [hlen]; exact H'.ent za4⟩
end Go.Proofs.YtjlolpmmpafjeaaGreat

set_option linter.unusedVariables false
set_option linter.unusedSimpArgs false
namespace Go.Proofs.YtjlolpmmpafjeaaGreat
open Slk
end Go.Proofs.YtjlolpmmpafjeaaGreat

set_option linter.unusedVariables false
set_option linter.unusedSimpArgs false
namespace Go.Proofs.YtjlolpmmpafjeaaGreat
open Slk
end Go.Proofs.YtjlolpmmpafjeaaGreat

set_option linter.unusedVariables false
set_option linter.unusedSimpArgs false
namespace Go.Proofs.YtjlolpmmpafjeaaGreat
open Slk
end Go.Proofs.YtjlolpmmpafjeaaGreat

set_option linter.unusedVariables false
set_option linter.unusedSimpArgs false
namespace Go.Proofs.YtjlolpmmpafjeaaGreat
open Slk
end Go.Proofs.YtjlolpmmpafjeaaGreat

set_option linter.unusedVariables false
set_option linter.unusedSimpArgs false
namespace Go.Proofs.YtjlolpmmpafjeaaGreat
open Slk
/-! ### What is read does not hang on where it lies -/
end Go.Proofs.YtjlolpmmpafjeaaGreat

set_option linter.unusedVariables false
set_option linter.unusedSimpArgs false
namespace Go.Proofs.YtjlolpmmpafjeaaGreat
open Slk
/-! ### What was read, written, is what was there -/
theorem numB_push (xs : List UInt8) (x : UInt8) : numB (xs ++ [x]) = numB xs * 256 + x.toNat := by
  unfold numB
  rw [List.foldl_append]; rfl
theorem beB_push (n k : Nat) (x : UInt8) : beB (n * 256 + x.toNat) (k + 1) = beB n k ++ [x] := by
  unfold beB
  rw [List.range_succ, List.map_append, List.map_cons, List.map_nil]
  congr 1
  · refine List.map_congr_left fun i hi => ?_
    have hi : i < k := List.mem_range.1 hi
    congr 1
    have e : 8 * (k + 1 - 1 - i) = 8 + 8 * (k - 1 - i) := by omega
    rw [e, Nat.pow_add, ← Nat.div_div_eq_div_mul]
    congr 1
    have := x.toNat_lt
    omega
  · have e : 8 * (k + 1 - 1 - k) = 0 := by omega
    rw [e]
    have := x.toNat_lt
    congr 1
    apply UInt8.toNat_inj.1
    rw [UInt8.toNat_ofNat']
    simp only [Nat.pow_zero, Nat.div_one]
    omega
theorem ofNat32_get (s : RS) : (UInt32.ofNat (getN s 4)).toNat = getN s 4 := by
  have := getN_lt s 4
  rw [UInt32.toNat_ofNat']
  omega
theorem ofNat64_get (s : RS) : (UInt64.ofNat (getN s 6)).toNat = getN s 6 := by
  have := getN_lt s 6
  rw [UInt64.toNat_ofNat']
  omega
end Go.Proofs.YtjlolpmmpafjeaaGreat
