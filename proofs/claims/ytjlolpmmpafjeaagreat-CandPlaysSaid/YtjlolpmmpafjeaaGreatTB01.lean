import Derived.Test.YtjlolpmmpafjeaaGreatT25
import Derived.Test.YtjlolpmmpafjeaaGreatRows
set_option linter.unusedVariables false
set_option linter.unusedSimpArgs false
namespace Slk
open Go
section
variable {P : Program} {t : TypeId}
instance ReadsAs.u8 [h : TyInt P t .u8] {b : Nat} {z : List Value} [TyI P t 1 b z] : ReadsAs P t UInt8 where
 of := by
  intro H enc w sp held fuel cs x k
  obtain ⟨n, rfl, _, hw⟩ := DataW.trod_int h.out k
  have hb : 0 ≤ n ∧ n ≤ 255 := by simpa [Lit.wf, IntKind.min, IntKind.max, IntKind.signed, IntKind.bits] using hw
  refine ⟨UInt8.ofNat n.toNat, ?_⟩
  show [Value.int .u8 n] = [u8v _]
  simp only [u8v, UInt8.toNat_ofNat', List.cons.injEq, Value.int.injEq, and_true, true_and]
  omega
 size := cellsOf_of
instance ReadsAs.u64 [h : TyInt P t .u64] {b : Nat} {z : List Value} [TyI P t 1 b z] : ReadsAs P t UInt64 where
 of := by
  intro H enc w sp held fuel cs x k
  obtain ⟨n, rfl, _, hw⟩ := DataW.trod_int h.out k
  have hb : 0 ≤ n ∧ n ≤ 18446744073709551615 := by simpa [Lit.wf, IntKind.min, IntKind.max, IntKind.signed, IntKind.bits] using hw
  refine ⟨UInt64.ofNat n.toNat, ?_⟩
  show [Value.int .u64 n] = [Value.int .u64 _]
  simp only [UInt64.toNat_ofNat', List.cons.injEq, Value.int.injEq, and_true, true_and]
  omega
 size := cellsOf_of
end
end Slk
namespace Slk
open Go
section
variable {P : Program} {t : TypeId}
theorem ReadsG.last (i : Nat) {o tot fz : Nat} {ft : TypeId} {α : Type} [Rep α] [hf : TyF P t i o ft fz] [h : ReadsAs P ft α] (ht : tot ≤ o + Rep.sz α) : ReadsG P t o tot α := by
 intro H enc w sp held fuel cs x k hl
 obtain ⟨_, y, n, hy⟩ := trod_field (hf := hf) k
 rw [h.size, List.take_of_length_le Z40] at hy
 exact h.of enc w sp held n _ _ hy
theorem ReadsAs.structG (i : Nat) {o fz tot : Nat} {ft : TypeId} {α : Type} [Rep α] [hf : TyF P t i o ft fz] (ht : P.cellsOf t = tot) (hs : tot = Rep.sz α) (k : ReadsG P t 0 tot α) : ReadsAs P t α where
 of := by
  intro H enc w sp held fuel cs x hx
  obtain ⟨hl, _⟩ := trod_field (hf := hf) hx
  exact k enc w sp held fuel cs x hx (by rw [hl, ht])
 size := by rw [ht, hs]
end
end Slk
namespace Go.Proofs.YtjlolpmmpafjeaaGreat
open Slk
instance : TyI Tryz.prog 79 1 8 ([.int .u64 0]) := ⟨Z61, Z61⟩
end Go.Proofs.YtjlolpmmpafjeaaGreat
namespace Go.Proofs.YtjlolpmmpafjeaaGreat
open Slk
instance : ReadsAs Tryz.prog 81 EditC := ReadsAs.structG 0 Z61 rfl (ReadsG.cons 0 (ReadsG.cons 1 (ReadsG.cons 2 (ReadsG.cons 3 (ReadsG.cons 4 (ReadsG.cons 5 (ReadsG.last 6 Z63)))))))
instance : ReadsAs Tryz.prog 97 CdStep := ReadsAs.structG 0 Z61 rfl (ReadsG.cons 0 (ReadsG.last 1 Z63))
end Go.Proofs.YtjlolpmmpafjeaaGreat
/- PROVED: the given statement CandPlays: for every input the law returns true, and each argument reads behind the call as it read before; no condition. -/
namespace Go.Proofs.YtjlolpmmpafjeaaGreat.candPlays
open Go.ChangeShapes Go.WideShapes Go.ChangeAt Go.RowKit
open Slk
theorem own : ownKnob Tryz.prog.godebug = none := by kernel_rfl
theorem laidOut : laidOutB Tryz.prog = true := by kernel_rfl
set_option maxRecDepth 100000 in
theorem lifted (os : Os) (started : os.Started) (H : Type) (enc : TypeId × Value → H) :
  ReturnsInHanded {} Tryz.checked os 12 .any (Rows.candPlaysSpec.pre6 enc Tryz.prog Tryz.f12 Rows.candPlaysRow.domain false) (Rows.candPlaysSpec.post enc Tryz.prog Tryz.f12 false true false false) := by
 refine returnsInHanded_of_change (C := Tryz.checked) own started Z61 Tryz.func12
  (ChangeSpec.witness6 (enc := enc) (C := Tryz.checked) false ⟨#[], #[.int .i64 0, .slice none 0 0], []⟩ 8 Z61 Z61 Z61 Z61) ?_
 intro W base args ds gs before hval0 hW hcnd _
 have hval : ∀ (j : Nat) t v, Tryz.f12.params[j]? = some t → args[j]? = some v → Value.okWide Tryz.prog W .any base t v := hval0
 have hW' := hW
 obtain ⟨p, q, hA0, hV, rfl, hfz, hnd⟩ := hW
 have hA : DataW.TrodAll enc Tryz.prog W 0 (fun _ => true) true Tryz.f12.params.toList args.toList ds p := hA0
 rw [Tryz.params12] at hA hval
 obtain ⟨v0, vs0, d0, ds0, p0, q0, hargs, rfl, rfl, h0, r0⟩ := trodAll_cons hA
 obtain ⟨v1, vs1, d1, ds1, p1, q1, rfl, rfl, rfl, h1, r1⟩ := trodAll_cons r0
 obtain ⟨rfl, rfl, rfl⟩ := trodAll_nil r1
 obtain rfl : args = #[v0, v1] := by cases args; simp_all
 obtain ⟨rfl, rfl⟩ := trodVars_none hV
 have k0 := h0
 have lt0 : ∀ x ∈ p0, x.block < W.heap.size := by obtain ⟨m, hm⟩ := k0; exact DataW.trod_lt m _ _ _ hm
 have e0 := cells_one (hval 0 3 v0 rfl rfl)
 obtain ⟨x0, y0⟩ := arg_rep (α := Int) h0
 rw [e0] at y0
 have k1 := h1
 have lt1 : ∀ x ∈ p1, x.block < W.heap.size := by obtain ⟨m, hm⟩ := k1; exact DataW.trod_lt m _ _ _ hm
 have e1 := cells_one (hval 1 99 v1 rfl rfl)
 obtain ⟨x1, y1⟩ := arg_rep (α := List CdStep) h1
 rw [e1] at y1
 clear hA0 hval0
 refine (CandPlays_walk W v0 v1 x0 x1 y0 y1).mono fun e W' ⟨he, hO⟩ => ?_
 have bel := hO.below
 subst he
 exact ⟨_, rfl, _, _, _, [], _, [], hW', trodAll_mk1 (shut_bool Tryz.underlying4 _), (trodAll_cons_mk (Below.trod laidOut Z61 (of_decide_eq_true Z61) k0 bel lt0) (trodAll_cons_mk (Below.trod laidOut Z61 (of_decide_eq_true Z61) k1 bel lt1) trodAll_mk0)), rfl, bel.frame _, fun h => by cases h⟩
theorem over : Rows.candPlaysRow.holds Tryz.pinned (OpenSpec.ofChange Rows.candPlaysSpec) :=
 OpenClaim.holds_of_wide 12 Tryz.f12 rfl rfl rfl rfl rfl rfl rfl ⟨rfl, rfl, rfl, rfl, rfl⟩ rfl rfl rfl rfl rfl Z61 Tryz.func12 Z61
  (of_decide_eq_true Z61) (by unfold Func.isWrapper; first | (rw [if_pos (by decide +kernel)]; kernel_rfl) | (rw [if_neg (by decide +kernel)]; exact ⟨rfl, rfl⟩))
  (fun os started H enc _ => lifted os started H enc)
theorem proved : Rows.CandPlaysSaid := over
#print axioms proved
end Go.Proofs.YtjlolpmmpafjeaaGreat.candPlays
