import Derived.Test.YtpgpfcplchaleaaSlkO
import Derived.DeepKeys
set_option linter.unusedVariables false
set_option linter.unusedSimpArgs false
namespace Slk
open Go
theorem cellOk_inj {k : CK} {u v : Value} {a b : Lit} (h1 : cellOk k u = some a) (h2 : cellOk k v = some b) : a = b ↔ u = v := by
  cases k with
  | i k =>
    cases u <;> simp only [cellOk] at h1 <;> try (cases h1; done)
    cases v <;> simp only [cellOk] at h2 <;> try (cases h2; done)
    split at h1 <;> try (cases h1; done)
    split at h2 <;> try (cases h2; done)
    rename_i e1 e2
    obtain ⟨rfl, _⟩ := e1
    obtain ⟨rfl, _⟩ := e2
    cases h1; cases h2
    simp
  | b =>
    cases u <;> simp only [cellOk] at h1 <;> try (cases h1; done)
    cases v <;> simp only [cellOk] at h2 <;> try (cases h2; done)
    cases h1; cases h2
    simp
theorem cellsOk_len : ∀ {ks : List CK} {cs : List Value} {ls : List Lit}, cellsOk ks cs = some ls → cs.length = ks.length
  | [], [], _, _ => rfl
  | [], _ :: _, _, h => by cases h
  | _ :: _, [], _, h => by cases h
  | k :: r, v :: vs, ls, h => by
    simp only [cellsOk] at h
    split at h
    · rename_i a b h1 h2
      simp [cellsOk_len h2]
    · cases h
theorem cellsOk_inj : ∀ {ks : List CK} {us vs : List Value} {a b : List Lit}, cellsOk ks us = some a → cellsOk ks vs = some b → (a = b ↔ us = vs)
  | [], [], [], _, _, h1, h2 => by cases h1; cases h2; simp
  | [], _ :: _, _, _, _, h, _ => by cases h
  | [], [], _ :: _, _, _, _, h => by cases h
  | _ :: _, [], _, _, _, h, _ => by cases h
  | _ :: _, _ :: _, [], _, _, _, h => by cases h
  | k :: r, u :: us, v :: vs, a, b, h1, h2 => by
    simp only [cellsOk] at h1 h2
    split at h1
    · rename_i a1 a2 p1 p2
      split at h2
      · rename_i b1 b2 q1 q2
        cases h1; cases h2
        simp only [List.cons.injEq, cellOk_inj p1 q1, cellsOk_inj p2 q2]
      · cases h2
    · cases h1
theorem cellsOk_append : ∀ {ks ms : List CK} {cs : List Value} {ls : List Lit}, cellsOk (ks ++ ms) cs = some ls → ∃ c1 c2 l1 l2, cs = c1 ++ c2 ∧ ls = l1 ++ l2 ∧ cellsOk ks c1 = some l1 ∧ cellsOk ms c2 = some l2
  | [], ms, cs, ls, h => ⟨[], cs, [], ls, rfl, rfl, rfl, h⟩
  | k :: r, ms, [], ls, h => by cases h
  | k :: r, ms, v :: vs, ls, h => by
    simp only [List.cons_append, cellsOk] at h
    split at h
    · rename_i a b h1 h2
      obtain ⟨c1, c2, l1, l2, rfl, rfl, p, q⟩ := cellsOk_append h2
      cases h
      exact ⟨v :: c1, c2, a :: l1, l2, rfl, rfl, by simp [cellsOk, h1, p], q⟩
    · cases h
/-- The kinds of a type's cells. -/
def kindsF (P : Program) (f : TypeId → Option (List CK)) : List Field → Nat → Option (List CK)
  | [], _ => some []
  | x :: r, o => if x.offset = o then
      match f x.type, kindsF P f r (o + P.cellsOf x.type) with
      | some a, some b => if a.length = P.cellsOf x.type then some (a ++ b) else none
      | _, _ => none
    else none
def kindsOf (P : Program) : Nat → TypeId → Option (List CK)
  | 0, _ => none
  | d + 1, t => match P.underlying t with
    | some .bool => some [.b]
    | some (.int k) => some [.i k]
    | some (.array n e) => match kindsOf P d e with
      | some ks => if ks.length = P.cellsOf e ∧ P.cellsOf t = n * P.cellsOf e then some (List.replicate n ks).flatten else none
      | none => none
    | some (.struct fs) => match kindsF P (kindsOf P d) fs.toList 0 with
      | some ks => if ks.length = P.cellsOf t ∧ fs.all (·.name != "_") = true then some ks else none
      | none => none
    | _ => none
theorem keyLits_items {P : Program} {d : Nat} {e : TypeId} {ks : List CK} (hl : ks.length = P.cellsOf e) (IH : ∀ cs ls, cellsOk ks cs = some ls → P.keyLits d e cs = some ls) : ∀ (n : Nat) (cs pre : List Value) (k : Nat) (ls : List Lit), pre.length = k * P.cellsOf e → cellsOk (List.replicate n ks).flatten cs = some ls →
    ∃ lss, ((List.range' k n).mapM fun i => P.keyLits d e (((pre ++ cs).drop (i * P.cellsOf e)).take (P.cellsOf e))) = some lss ∧ lss.flatten = ls
  | 0, cs, pre, k, ls, _, h => by
    cases cs with
    | nil => simp [cellsOk] at h; subst h; exact ⟨[], rfl, rfl⟩
    | cons _ _ => simp [cellsOk] at h
  | n + 1, cs, pre, k, ls, hp, h => by
    rw [List.replicate_succ, List.flatten_cons] at h
    obtain ⟨c1, c2, l1, l2, rfl, rfl, p, q⟩ := cellsOk_append h
    have h1 : c1.length = P.cellsOf e := by rw [cellsOk_len p, hl]
    obtain ⟨lss, hm, hf⟩ := keyLits_items hl IH n c2 (pre ++ c1) (k + 1) l2 (by rw [List.length_append, hp, h1, Nat.add_mul]; omega) q
    refine ⟨l1 :: lss, ?_, by simp [hf]⟩
    rw [List.range'_succ, List.mapM_cons]
    have e1 : ((pre ++ (c1 ++ c2)).drop (k * P.cellsOf e)).take (P.cellsOf e) = c1 := by
      rw [← hp, List.drop_left, ← h1, List.take_left]
    simp only [e1, IH _ _ p]
    rw [List.append_assoc] at hm
    simp [hm]
theorem keyLits_fields {P : Program} {d : Nat} (IH : ∀ t ks, kindsOf P d t = some ks → ∀ cs ls, cellsOk ks cs = some ls → P.keyLits d t cs = some ls) : ∀ (fs : List Field) (o : Nat) (ks : List CK) (cs pre : List Value) (ls : List Lit), kindsF P (kindsOf P d) fs o = some ks → pre.length = o → cellsOk ks cs = some ls →
    ∃ lss, (fs.mapM fun f => P.keyLits d f.type (((pre ++ cs).drop f.offset).take (P.cellsOf f.type))) = some lss ∧ lss.flatten = ls
  | [], o, ks, cs, pre, ls, hk, _, h => by
    simp only [kindsF, Option.some.injEq] at hk
    subst hk
    cases cs with
    | nil => simp [cellsOk] at h; subst h; exact ⟨[], rfl, rfl⟩
    | cons _ _ => simp [cellsOk] at h
  | f :: r, o, ks, cs, pre, ls, hk, hp, h => by
    simp only [kindsF] at hk
    split at hk
    · rename_i ho
      split at hk
      · rename_i a b ha hb
        split at hk
        · rename_i hl
          cases hk
          obtain ⟨c1, c2, l1, l2, rfl, rfl, p, q⟩ := cellsOk_append h
          have h1 : c1.length = P.cellsOf f.type := by rw [cellsOk_len p, hl]
          obtain ⟨lss, hm, hf⟩ := keyLits_fields IH r (o + P.cellsOf f.type) b c2 (pre ++ c1) l2 hb (by rw [List.length_append, hp, h1]) q
          refine ⟨l1 :: lss, ?_, by simp [hf]⟩
          rw [List.mapM_cons]
          have e1 : ((pre ++ (c1 ++ c2)).drop f.offset).take (P.cellsOf f.type) = c1 := by
            rw [ho, ← hp, List.drop_left, ← h1, List.take_left]
          simp only [e1, IH _ _ ha _ _ p]
          rw [List.append_assoc] at hm
          simp [hm]
        · cases hk
      · cases hk
    · cases hk
theorem keyLits_of {P : Program} : ∀ (d : Nat) (t : TypeId) (ks : List CK), kindsOf P d t = some ks → ∀ cs ls, cellsOk ks cs = some ls → P.keyLits d t cs = some ls
  | 0, _, _, hk, _, _, _ => by simp [kindsOf] at hk
  | d + 1, t, ks, hk, cs, ls, h => by
    simp only [kindsOf] at hk
    simp only [Program.keyLits]
    split at hk
    · rename_i hu
      cases hk
      match cs, h with
      | [v], h =>
        cases v <;> simp [cellsOk, cellOk] at h
        subst h
        simp [hu]
      | [], h => cases h
      | _ :: _ :: _, h => simp only [cellsOk] at h; split at h <;> simp_all
    · rename_i k hu
      cases hk
      match cs, h with
      | [v], h =>
        cases v <;> simp [cellsOk, cellOk] at h
        rename_i k' i
        split at h
        · rename_i a b hx hy
          cases hy
          cases h
          split at hx
          · rename_i hh
            obtain ⟨rfl, hw⟩ := hh
            cases hx
            simp [hu, hw]
          · cases hx
        · cases h
      | [], h => cases h
      | _ :: _ :: _, h => simp only [cellsOk] at h; split at h <;> simp_all
    · rename_i n e hu
      split at hk
      · rename_i ks' he
        split at hk
        · rename_i hh
          cases hk
          obtain ⟨lss, hm, hf⟩ := keyLits_items hh.1 (keyLits_of d e ks' he) n cs [] 0 ls (by simp) h
          have hcl := cellsOk_len h
          have : cs.length = P.cellsOf t := by
            rw [hcl, hh.2, List.length_flatten]; simp [List.map_replicate, List.sum_replicate_nat, hh.1]
          simp only [List.nil_append] at hm
          simp [hu, this, List.range_eq_range', hm, hf]
        · cases hk
      · cases hk
    · rename_i fs hu
      split at hk
      · rename_i ks' hf
        split at hk
        · rename_i hh
          cases hk
          obtain ⟨lss, hm, hfl⟩ := keyLits_fields (keyLits_of d) fs.toList 0 ks cs [] ls hf rfl h
          have hcl := cellsOk_len h
          have : cs.length = P.cellsOf t := by rw [hcl, hh.1]
          simp only [List.nil_append] at hm
          rw [hu]
          dsimp only
          rw [if_pos ⟨this, hh.2⟩, hm]
          simp [hfl]
        · cases hk
      · cases hk
    · cases hk
class TyFlat (P : Program) (t : TypeId) (ks : outParam (List CK)) : Prop where
  kinds : kindsOf P 6 t = some ks
  key : P.keyTypeAt 6 t = true
  guard : P.eqGuardType P.depth t = false
  agg : (match P.underlying t with | some (.struct _) | some (.array _ _) => true | _ => false) = true
theorem run_eqG {P : Program} {t : TypeId} {ks : List CK} [h : TyFlat P t ks] {xs ys : List Value} {a b : List Lit} (hx : cellsOk ks xs = some a) (hy : cellsOk ks ys = some b) (p : Prop) [Decidable p] (hp : xs = ys ↔ p) (w : World) : (Op.equal t (.agg xs.toArray) (.agg ys.toArray)).run P w = .ok (decide p) w := by
  have kx := keyLits_of 6 t ks h.kinds xs a hx
  have ky := keyLits_of 6 t ks h.kinds ys b hy
  have hf : ∀ cs ls, P.keyLits 6 t cs = some ls → (Value.agg cs.toArray).formed P t = true := by
    intro cs ls k
    have hg := h.agg
    unfold Program.keyLits at k
    cases hu : P.underlying t with
    | none => rw [hu] at hg; cases hg
    | some d =>
      cases d <;> simp only [hu] at hg k <;> try (cases hg; done)
      · split at k
        · simp_all [Value.formed]
        · cases k
      · split at k
        · simp_all [Value.formed]
        · cases k
  obtain ⟨r, hr, hi⟩ := run_equalIn_deep 9994 6 t h.key w 6 6 (.agg xs.toArray) (.agg ys.toArray) a b (hf _ _ kx) (hf _ _ ky) (by simpa [Value.cells] using kx) (by simpa [Value.cells] using ky)
  have : r = decide p := by
    rw [cellsOk_inj hx hy, hp] at hi
    by_cases e : p
    · rw [decide_eq_true e]; exact hi.2 e
    · rw [decide_eq_false e]
      cases r
      · rfl
      · exact absurd (hi.1 rfl) e
  rw [← this]
  exact hr
section
variable {P : Program} {D : Nat → Prop} {w0 : World} {env : Slots} {l : List HProp} {dst : Option Tmp} {ty : TypeId} {pos : String} {after : Array Edge} {g : Option (Nat × Bool)} {x y : Operand} {t t' : TypeId}
theorem run_eqGuard_flat {op : BinOp} {ks : List CK} [h : TyFlat P t ks] (x y : Operand) (a b : Array Value) (w : World) : (eqGuard op t x y (.agg a) (.agg b)).run P w = .ok () w := by
  have hg := h.guard
  cases op <;> simp [eqGuard, hg]
theorem ov_eqlG {ks : List CK} [h : TyFlat P t ks] {xs ys : List Value} {p : Prop} [Decidable p] (hx : evalO env x = some (.agg xs.toArray)) (hy : evalO env y = some (.agg ys.toArray)) (ox : (cellsOk ks xs).isSome = true) (oy : (cellsOk ks ys).isSome = true) (hp : xs = ys ↔ p) : OpVal P D w0 env l ⟨dst, .binOp .eql t x y t', ty, pos, after, g⟩ (.bool (decide p)) := .mk fun n a w E H => by
  obtain ⟨la, ha⟩ := Option.isSome_iff_exists.1 ox
  obtain ⟨lb, hb⟩ := Option.isSome_iff_exists.1 oy
  have e := run_eqG (P := P) (t := t) ha hb p hp w
  simp [execOp, E.eval hx, E.eval hy, run_eqGuard_flat, binOp, e]
theorem ov_neqG {ks : List CK} [h : TyFlat P t ks] {xs ys : List Value} {p : Prop} [Decidable p] (hx : evalO env x = some (.agg xs.toArray)) (hy : evalO env y = some (.agg ys.toArray)) (ox : (cellsOk ks xs).isSome = true) (oy : (cellsOk ks ys).isSome = true) (hp : xs = ys ↔ p) : OpVal P D w0 env l ⟨dst, .binOp .neq t x y t', ty, pos, after, g⟩ (.bool (decide (¬ p))) := .mk fun n a w E H => by
  obtain ⟨la, ha⟩ := Option.isSome_iff_exists.1 ox
  obtain ⟨lb, hb⟩ := Option.isSome_iff_exists.1 oy
  have e := run_eqG (P := P) (t := t) ha hb p hp w
  simp [execOp, E.eval hx, E.eval hy, run_eqGuard_flat, binOp, e]
end
theorem cellsOk_u8 : ∀ (xs : List UInt8), (cellsOk (List.replicate xs.length (.i .u8)) (xs.map u8v)).isSome = true
  | [] => rfl
  | x :: r => by
    have h := x.toNat_lt
    have ih := cellsOk_u8 r
    obtain ⟨lb, hb⟩ := Option.isSome_iff_exists.1 ih
    simp only [List.length_cons, List.replicate_succ, List.map_cons, cellsOk, u8v, cellOk, hb]
    rw [if_pos]
    · rfl
    · simp [Lit.wf, IntKind.min, IntKind.max, IntKind.signed, IntKind.bits]
      omega
theorem u8v_inj {xs ys : List UInt8} : xs.map u8v = ys.map u8v ↔ xs = ys := by
  constructor
  · intro h
    refine List.map_inj_right (fun a b e => ?_) |>.1 h
    simp only [u8v, Value.int.injEq] at e
    exact UInt8.toNat_inj.1 (by omega)
  · rintro rfl; rfl
end Slk
