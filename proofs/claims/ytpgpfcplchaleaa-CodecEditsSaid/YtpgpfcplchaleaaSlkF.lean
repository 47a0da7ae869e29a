import Derived.Test.YtpgpfcplchaleaaSlkE
import Derived.RegionTactic
set_option linter.unusedVariables false
set_option linter.unusedSimpArgs false
namespace Slk
open Go

/-! ### Regions that draw their order -/
/-- Quiet operations first, then the tail. -/
structure HT (P : Program) (ops : Array Oper) (Q : Post) (D : Nat → Prop) (w0 : World) (n : Nat) (env : Slots) (l : List HProp) (tail r : List Oper) : Prop where
  run : ∀ a w, St D w0 n env l a w → wpStill P ops w (fun a' => wpList P ops Q tail a' w) r a
/-- Quiet operations alone. -/
structure HQ (P : Program) (ops : Array Oper) (Q : Post) (D : Nat → Prop) (w0 : World) (n : Nat) (env : Slots) (l : List HProp) (r : List Oper) : Prop where
  run : ∀ a, Env n a env → wpQuiet P ops (fun w => Own D w0 w l) (fun a' => ∀ w', Own D w0 w' l → Q .normal a' w') r a
/-- Any order; behind each operation the worlds are of a class. -/
def wpAnyI (P : Program) (md : Region.Mode) (ops : Array Oper) (Q : Post) (C : World → Prop) : Nat → Array Bool → Act → World → Prop
  | 0, listed, a, w => Region.ready md ops listed = [] ∧ Q .normal a w
  | fuel + 1, listed, a, w =>
    (Region.ready md ops listed = [] → Q .normal a w) ∧
    ∀ i ∈ Region.ready md ops listed, wpOp P ops Q i (fun a' w' => C w' ∧ wpAnyI P md ops Q C fuel (listed.setIfInBounds i true) a' w') a w
theorem wpAny_of_I {P : Program} {md : Region.Mode} {ops : Array Oper} {Q : Post} {C : World → Prop} : ∀ (fuel : Nat) (listed : Array Bool) (a : Act) (w : World), wpAnyI P md ops Q C fuel listed a w → wpAny P md ops Q fuel listed a w
  | 0, _, _, _, h => h
  | fuel + 1, _, _, _, h => ⟨h.1, fun i hi => wpOp_mono (fun a' w' h' => wpAny_of_I fuel _ a' w' h'.2) (h.2 i hi)⟩
/-- In every world of the class the operation yields v. -/
def YieldsC (P : Program) (ops : Array Oper) (C : World → Prop) (o : Oper) (v : Value) (a : Act) : Prop :=
  (Region.wanted o (yielded ops a.tmps) = true ∧ ∀ w, C w → (execOp a.eval o).run P w = .ok (.value v) w) ∨
  (Region.wanted o (yielded ops a.tmps) = false ∧ v = undef)
section
variable {P : Program} {ops : Array Oper} {Q : Post} {md : Region.Mode} {C : World → Prop}
theorem YieldsC.wpOp {i : Nat} {o : Oper} {v : Value} {a : Act} (hi : ops[i]? = some o) (hy : YieldsC P ops C o v a) {K : Act → World → Prop} {w : World} (hC : C w) (h : K (a.put o.dst v) w) : wpOp P ops Q i K a w := by
  unfold Go.wpOp
  simp only [hi]
  rcases hy with ⟨hw, hv⟩ | ⟨hw, rfl⟩
  · simp only [hw, if_true, Oper.wp, hv w hC, Oper.upon]; exact .inl h
  · simp only [hw, Bool.false_eq_true, if_false]; exact h
theorem YieldsC.of_same {o : Oper} {v : Value} {a a' : Act} (hy : YieldsC P ops C o v a) (he : execOp a'.eval o = execOp a.eval o) (hw : Region.wanted o (yielded ops a'.tmps) = Region.wanted o (yielded ops a.tmps)) : YieldsC P ops C o v a' := by
  unfold YieldsC at *
  rw [he, hw]
  exact hy
theorem wpOp_putC {j : Nat} {oi oj : Oper} {v : Value} (hj : ops[j]? = some oj) (hap : oi.apart ops oj = true)
    (hsi : ∀ cs b, oi.op ≠ .select cs b) (hsj : ∀ cs b, oj.op ≠ .select cs b)
    (hQ : ∀ c a w, Q (.panic c) (a.put oi.dst v) w → Q (.panic c) a w) {K : Act → World → Prop} {a : Act} {w : World}
    (hy : YieldsC P ops C oi v a) (h : wpOp P ops Q j K (a.put oi.dst v) w) :
    wpOp P ops Q j (fun a' w' => YieldsC P ops C oi v a' ∧ K (a'.put oi.dst v) w') a w := by
  obtain ⟨h1, h2, h3⟩ := Oper.apart_spec hap
  have keep : ∀ (a : Act), YieldsC P ops C oi v a → ∀ u, YieldsC P ops C oi v (a.put oj.dst u) := fun a hy u =>
    hy.of_same (execOp_put oi hsi a oj.dst u h3) (wanted_put oi a oj.dst u h3)
  have keepD : ∀ d, YieldsC P ops C oi v { a with defers := d :: a.defers } := fun d => hy.of_same rfl rfl
  unfold wpOp at *
  simp only [hj] at *
  rw [wanted_put oj a oi.dst v h1] at h
  split
  · rename_i hw
    simp only [hw, if_true] at h
    rcases h with h | ⟨hasks, hlets⟩
    case inr => exact .inr ⟨by unfold Oper.asks at *; rw [execOp_put oj hsj a oi.dst v h1] at hasks; exact hasks, hlets⟩
    refine .inl ?_
    unfold Oper.wp at *
    rw [execOp_put oj hsj a oi.dst v h1] at h
    generalize (execOp a.eval oj).run P w = r at *
    cases r with
    | ok n w' =>
      cases n <;> simp only [Oper.upon] at h ⊢
      case value u => exact ⟨keep a hy u, by rw [← Act.put_comm a v u h2]; exact h⟩
      case skip => exact ⟨keep a hy _, by rw [← Act.put_comm a v undef h2]; exact h⟩
      case defer d =>
        refine ⟨keep _ (keepD d) _, ?_⟩
        rw [← Act.put_comm _ v undef h2, ← Act.put_defers]
        exact h
      case enter f args =>
        refine Calls.mono h fun e w'' he => ?_
        cases e with
        | returned u => exact ⟨keep a hy u, by rw [← Act.put_comm a v u h2]; exact he⟩
        | panicked c => exact hQ _ _ _ he
        | outgrown => exact he
      case row row args => exact Rows.mono h fun u w'' he => ⟨keep a hy u, by rw [← Act.put_comm a v u h2]; exact he⟩
    | halt x w' =>
      cases x <;> simp only [Oper.upon] at h ⊢
      case panic u => exact hQ _ _ _ h
  · rename_i hw
    simp only [hw] at h
    exact ⟨keep a hy _, by rw [← Act.put_comm a v undef h2]; exact h⟩
theorem wpAnyI_first {i : Nat} {oi : Oper} {v : Value} (hi : ops[i]? = some oi) (hsel : ∀ (j : Nat) (o : Oper) cs b, ops[j]? = some o → o.op ≠ .select cs b)
    (hQ : ∀ c a w, Q (.panic c) (a.put oi.dst v) w → Q (.panic c) a w) :
    ∀ (fuel : Nat) (listed : Array Bool) (a : Act) (w : World),
      (∀ j oj, ops[j]? = some oj → j ≠ i → listed.getD j true = false → (∀ e ∈ oj.after, Region.binds md e = true → e.on ≠ i) → oi.apart ops oj = true) →
      i ∈ Region.ready md ops listed → C w → YieldsC P ops C oi v a →
      wpAnyI P md ops Q C fuel (listed.setIfInBounds i true) (a.put oi.dst v) w → wpAnyI P md ops Q C (fuel + 1) listed a w := by
  intro fuel
  induction fuel with
  | zero =>
    intro listed a w _ hr hC hy H
    refine ⟨fun h => (by rw [h] at hr; cases hr), fun j hj => ?_⟩
    by_cases hji : j = i
    · subst hji; exact hy.wpOp hi hC ⟨hC, H⟩
    · have := ready_mono hj hji
      rw [H.1] at this
      cases this
  | succ fuel ih =>
    intro listed a w hfree hr hC hy H
    refine ⟨fun h => (by rw [h] at hr; cases hr), fun j hj => ?_⟩
    by_cases hji : j = i
    · subst hji; exact hy.wpOp hi hC ⟨hC, H⟩
    · have h1 := H.2 j (ready_mono hj hji)
      obtain ⟨hjun, oj, hoj, hall⟩ := mem_ready.1 hj
      have hnot : ∀ e ∈ oj.after, Region.binds md e = true → e.on ≠ i := fun e he hb heq => by
        have h1 := hall e he hb
        have h0 := (mem_ready.1 hr).1
        rw [heq] at h1
        rcases Nat.lt_or_ge i listed.size with h' | h'
        · simp [h'] at h0 h1; rw [h0] at h1; cases h1
        · simp [Array.getElem?_eq_none h'] at h1
      have h2 := wpOp_putC hoj (hfree j oj hoj hji hjun hnot) (fun cs b => hsel i oi cs b hi) (fun cs b => hsel j oj cs b hoj) hQ hy h1
      have hfree' : ∀ k ok, ops[k]? = some ok → k ≠ i → (listed.setIfInBounds j true).getD k true = false →
          (∀ e ∈ ok.after, Region.binds md e = true → e.on ≠ i) → oi.apart ops ok = true := fun k ok hk hki hun hno => by
        refine hfree k ok hk hki ?_ hno
        by_cases hjk : j = k
        · subst hjk; exact hjun
        · rw [getD_set_ne true hjk] at hun; exact hun
      refine wpOp_mono (fun a' w' h3 => ⟨h3.2.1, ih (listed.setIfInBounds j true) a' w' hfree' (ready_mono hr (Ne.symm hji)) h3.2.1 h3.1 ?_⟩) h2
      rw [Array.setIfInBounds_comm _ _ hji]
      exact h3.2.2
end
/-- Any order; L0: what holds all along. -/
structure HA (P : Program) (ops : Array Oper) (Q : Post) (D : Nat → Prop) (w0 : World) (n : Nat) (env : Slots) (l L0 : List HProp) (fuel : Nat) (listed : Array Bool) : Prop where
  run : ∀ a w, St D w0 n env l a w → wpAnyI P .any ops Q (fun w => Own D w0 w L0) fuel listed a w
/-- One operation comes now. -/
structure HO (P : Program) (ops : Array Oper) (Q : Post) (D : Nat → Prop) (w0 : World) (n : Nat) (env : Slots) (l L0 : List HProp) (i fuel : Nat) (listed : Array Bool) : Prop where
  run : ∀ a w, St D w0 n env l a w → wpOp P ops Q i (fun a' w' => Own D w0 w' L0 ∧ wpAnyI P .any ops Q (fun w => Own D w0 w L0) fuel (listed.setIfInBounds i true) a' w') a w
/-- Does a guarded operation run? -/
def guardIs (ops : Array Oper) (env : Slots) (g : Option (Nat × Bool)) : Option Bool :=
  match g with
  | none => some true
  | some (j, want) => match guardSlot ops j with
    | none => none
    | some t => match Slots.get env t with
      | some (.bool b) => some (b == want)
      | some (.tuple _) => some false
      | _ => none
theorem wanted_undef {ops : Array Oper} {o : Oper} {a : Act} {j : Nat} {want : Bool} {t : Nat} {n : Nat} {env : Slots} {vs : Array Value} (hg : o.guard = some (j, want)) (hj : guardSlot ops j = some t) (E : Env n a env) (hv : Slots.get env t = some (.tuple vs)) : Region.wanted o (yielded ops a.tmps) = false := by
  have h1 : ((ops[j]?).bind (·.dst)).bind (a.tmps[·]?) = some (.tuple vs) := by
    unfold guardSlot at hj
    rw [hj]
    exact E.get t _ hv
  simp only [Region.wanted, hg, yielded, h1]
  rfl
def opAt : List Oper → Nat → Option Oper
  | o :: _, 0 => some o
  | _ :: r, n + 1 => opAt r n
  | [], _ => none
theorem opAt_eq : ∀ {r : List Oper} {i : Nat} {o : Oper}, opAt r i = some o → r.toArray[i]? = some o
  | o :: _, 0, _, h => by simpa [opAt] using h
  | _ :: r, n + 1, o, h => by
    have := opAt_eq (r := r) (i := n) h
    simpa using this
  | [], _, _, h => by simp [opAt] at h
theorem guardIs_eq {ops : Array Oper} {env : Slots} {o : Oper} {b : Bool} (h : guardIs ops env o.guard = some b) {n : Nat} {a : Act} (E : Env n a env) : Region.wanted o (yielded ops a.tmps) = b := by
  unfold guardIs at h
  split at h
  · rename_i hg
    simp only [Option.some.injEq] at h
    subst h
    simp [Region.wanted, hg]
  · rename_i j want hg
    split at h
    · cases h
    · rename_i t ht
      split at h
      · rename_i c hc
        simp only [Option.some.injEq] at h
        rw [wanted_of hg ht E hc, h]
      · rename_i vs hc
        simp only [Option.some.injEq] at h
        rw [wanted_undef hg ht E hc, h]
      · cases h
class PB (Q : Post) : Prop where out : ∀ d v c a w, Q (.panic c) (a.put d v) w → Q (.panic c) a w
instance PB.then {K : Act → World → Prop} {Q : Post} [h : PB Q] : PB (Exit.then K Q) := ⟨fun d v c a w q => h.out d v c a w q⟩
instance PB.block {i : Nat} {Q : Post} [h : PB Q] : PB (Exit.inBlock i Q) := ⟨fun d v c a w q => h.out d v c a w q⟩
instance PB.body {P : Program} {fn : Func} {R : Ending → World → Prop} : PB (bodyPost P fn R) := ⟨fun d v c a w q => by
  refine ⟨?_, q.2⟩
  have := q.1
  cases d <;> exact this⟩

section
variable {P : Program} {Q : Post} {D : Nat → Prop} {w0 : World} {n : Nat} {env : Slots} {l : List HProp} {ops : Array Oper} {r tail : List Oper} {o : Oper}
theorem hc_tail (n0 : Nat) {id : Nat} {r : List Oper} (hm : P.follows .mixedOrders = true) (hB : Region.lexTailB .any r.toArray n0 = true) (h : HT P r.toArray Q D w0 n env l (r.drop n0) (r.take n0)) : HC P Q D w0 n env l (.region id r.toArray true) := .mk fun a w S =>
  wp_region_still_tail n0 hm hB (h.run a w.drew ⟨S.env, S.own.drew⟩)
theorem ht_nil (h : HL P ops Q D w0 n env l tail) : HT P ops Q D w0 n env l tail [] := .mk fun a w S => h.run a w S
theorem ht_val {d : Nat} {v : Value} (h : OpVal P D w0 env l o v) (hd : o.dst = some d) (hg : o.guard = none) (hn : Nat.blt d n = true) (k : HT P ops Q D w0 n ((d, v) :: env) l tail r) : HT P ops Q D w0 n env l tail (o :: r) := .mk fun a w S => by
  unfold wpStill
  rw [if_pos (by simp [Region.wanted, hg])]
  unfold Oper.still
  rw [h.run n a w S.env S.own, Oper.stillUpon_value, hd]
  exact k.run _ w ⟨S.env.put hn v, S.own⟩
theorem ht_on {dst : Option Tmp} {op : Op} {ty : TypeId} {pos : String} {after : Array Edge} {j t : Nat} {want : Bool} (hj : guardSlot ops j = some t) (hv : Slots.get env t = some (.bool want)) (k : HT P ops Q D w0 n env l tail (⟨dst, op, ty, pos, after, none⟩ :: r)) : HT P ops Q D w0 n env l tail (⟨dst, op, ty, pos, after, some (j, want)⟩ :: r) := .mk fun a w S => by
  have hw := wanted_of (o := ⟨dst, op, ty, pos, after, some (j, want)⟩) rfl hj S.env hv
  have h := k.run a w S
  unfold wpStill at h ⊢
  rw [if_pos (by rw [hw]; simp)]
  rw [if_pos (by simp [Region.wanted])] at h
  exact h
theorem ht_off {j t d : Nat} {want b : Bool} (hg : o.guard = some (j, want)) (hj : guardSlot ops j = some t) (hv : Slots.get env t = some (.bool b)) (hne : (b == want) = false) (hd : o.dst = some d) (hn : Nat.blt d n = true) (k : HT P ops Q D w0 n ((d, undef) :: env) l tail r) : HT P ops Q D w0 n env l tail (o :: r) := .mk fun a w S => by
  have hw := wanted_of hg hj S.env hv
  unfold wpStill
  rw [if_neg (by rw [hw, hne]; simp), hd]
  exact k.run _ w ⟨S.env.put hn _, S.own⟩
theorem ht_part {t : Nat} {p : Prop} [Decidable p] (hv : Slots.get env t = some (.bool (decide p))) (ht : p → HT P ops Q D w0 n ((t, .bool true) :: env) l tail r) (hf : ¬ p → HT P ops Q D w0 n ((t, .bool false) :: env) l tail r) : HT P ops Q D w0 n env l tail r := .mk fun a w S => by
  by_cases hp : p
  · exact (ht hp).run a w ⟨S.env.sub (Slots.sub_cons (by rw [hv, decide_eq_true hp]) (Slots.sub_refl _)), S.own⟩
  · exact (hf hp).run a w ⟨S.env.sub (Slots.sub_cons (by rw [hv, decide_eq_false hp]) (Slots.sub_refl _)), S.own⟩

theorem hc_quiet {id : Nat} {r : List Oper} (hm : P.follows .mixedOrders = true) (hB : Region.lexB .any r.toArray = true) (h : HQ P r.toArray Q D w0 n env l r) : HC P Q D w0 n env l (.region id r.toArray true) := .mk fun a w S =>
  wp_region_quiet (C := fun w => Own D w0 w l) hm hB S.own.drew (h.run a S.env)
theorem hq_nil (h : HX Q .normal D w0 n env l) : HQ P ops Q D w0 n env l [] := .mk fun a E => wpQuiet_nil fun w' H => h.run a w' ⟨E, H⟩
theorem hq_val {d : Nat} {v : Value} (h : OpVal P D w0 env l o v) (hd : o.dst = some d) (hg : o.guard = none) (hn : Nat.blt d n = true) (k : HQ P ops Q D w0 n ((d, v) :: env) l r) : HQ P ops Q D w0 n env l (o :: r) := .mk fun a E => by
  unfold wpQuiet
  rw [if_pos (by simp [Region.wanted, hg])]
  refine ⟨v, fun w H => ?_, by rw [hd]; exact k.run _ (E.put hn v)⟩
  unfold Oper.quietAt
  rw [h.run n a w E H]
  exact ⟨rfl, rfl⟩
theorem hq_on {dst : Option Tmp} {op : Op} {ty : TypeId} {pos : String} {after : Array Edge} {j t : Nat} {want : Bool} (hj : guardSlot ops j = some t) (hv : Slots.get env t = some (.bool want)) (k : HQ P ops Q D w0 n env l (⟨dst, op, ty, pos, after, none⟩ :: r)) : HQ P ops Q D w0 n env l (⟨dst, op, ty, pos, after, some (j, want)⟩ :: r) := .mk fun a E => by
  have hw := wanted_of (o := ⟨dst, op, ty, pos, after, some (j, want)⟩) rfl hj E hv
  have h := k.run a E
  unfold wpQuiet at h ⊢
  rw [if_pos (by rw [hw]; simp)]
  rw [if_pos (by simp [Region.wanted])] at h
  exact h
theorem hq_off {j t d : Nat} {want b : Bool} (hg : o.guard = some (j, want)) (hj : guardSlot ops j = some t) (hv : Slots.get env t = some (.bool b)) (hne : (b == want) = false) (hd : o.dst = some d) (hn : Nat.blt d n = true) (k : HQ P ops Q D w0 n ((d, undef) :: env) l r) : HQ P ops Q D w0 n env l (o :: r) := .mk fun a E => by
  have hw := wanted_of hg hj E hv
  unfold wpQuiet
  rw [if_neg (by rw [hw, hne]; simp), hd]
  exact k.run _ (E.put hn _)
theorem hq_part {t : Nat} {p : Prop} [Decidable p] (hv : Slots.get env t = some (.bool (decide p))) (ht : p → HQ P ops Q D w0 n ((t, .bool true) :: env) l r) (hf : ¬ p → HQ P ops Q D w0 n ((t, .bool false) :: env) l r) : HQ P ops Q D w0 n env l r := .mk fun a E => by
  by_cases hp : p
  · exact (ht hp).run a (E.sub (Slots.sub_cons (by rw [hv, decide_eq_true hp]) (Slots.sub_refl _)))
  · exact (hf hp).run a (E.sub (Slots.sub_cons (by rw [hv, decide_eq_false hp]) (Slots.sub_refl _)))
theorem hq_partb {t : Nat} {b : Bool} (hv : Slots.get env t = some (.bool b)) (ht : b = true → HQ P ops Q D w0 n ((t, .bool true) :: env) l r) (hf : b = false → HQ P ops Q D w0 n ((t, .bool false) :: env) l r) : HQ P ops Q D w0 n env l r := .mk fun a E => by
  cases b
  · exact (hf rfl).run a (E.sub (Slots.sub_cons hv (Slots.sub_refl _)))
  · exact (ht rfl).run a (E.sub (Slots.sub_cons hv (Slots.sub_refl _)))
theorem hq_call {d f : Nat} {args : List Operand} {ats : Array TypeId} {ty : TypeId} {pos : String} {after : Array Edge} {vs : List Value} {v : Value} (hcf : ∀ args w, (callFunc f args).run P w = .ok (.enter f args) w)
    (hv : evalL env args = some vs) (hn : Nat.blt d n = true) (hc : ∀ w, Own D w0 w l → Calls P f vs.toArray w fun e w' => e = .returned v ∧ Own D w0 w' l)
    (k : HQ P ops Q D w0 n ((d, v) :: env) l r) : HQ P ops Q D w0 n env l (⟨some d, .call ⟨.value (.func f), args.toArray, ats⟩, ty, pos, after, none⟩ :: r) := .mk fun a E => by
  unfold wpQuiet
  rw [if_pos (by simp [Region.wanted])]
  refine ⟨v, fun w H => ?_, k.run _ (E.put hn v)⟩
  have hrun : (execOp a.eval ⟨some d, .call ⟨.value (.func f), args.toArray, ats⟩, ty, pos, after, none⟩).run P w = .ok (.enter f vs.toArray) w := by
    simp [execOp, resolve, Deferred.ofValue, Act.eval, invoke, E.evals hv, hcf]
  unfold Oper.quietAt
  rw [hrun]
  exact ⟨rfl, (hc w H).mono fun e w' h => h⟩

theorem hc_any (L0 : List HProp) {id : Nat} {r : List Oper} (hm : P.follows .mixedOrders = true) (k : Nat) (hk : r.length = k) (h : HA P r.toArray Q D w0 n env l L0 k (Array.replicate k false)) : HC P Q D w0 n env l (.region id r.toArray true) := .mk fun a w S => by
  refine wp_region_any hm (wpAny_of_I (C := fun w => Own D w0 w L0) _ _ _ _ ?_)
  have := h.run a w.drew ⟨S.env, S.own.drew⟩
  subst hk
  simpa using this
section
variable {L0 : List HProp} {fuel : Nat} {listed : Array Bool} {rl : List Oper}
/-- An operation that is quiet all along is taken first. -/
theorem ha_take (i : Nat) {d : Nat} {v : Value} (hi : opAt rl i = some o) (h : OpVal P D w0 env L0 o v) (hd : o.dst = some d) (hg : guardIs rl.toArray env o.guard = some true) (hn : Nat.blt d n = true)
    (hs : Region.noSelect rl.toArray = true) (hf : Region.free   .any rl.toArray listed i = true) (hr : (Region.ready   .any rl.toArray listed).contains i = true) (hE : Ent l L0) [hq : PB Q]
    (k : HA P rl.toArray Q D w0 n ((d, v) :: env) l L0 fuel (listed.setIfInBounds i true)) : HA P rl.toArray Q D w0 n env l L0 (fuel + 1) listed := .mk fun a w S => by
  refine wpAnyI_first (opAt_eq hi) (Region.noSelect_spec hs) (fun c a' w' q => hq.out _ _ _ _ _ q) fuel listed a w (Region.free_spec (opAt_eq hi) hf) (by simpa using hr) (S.own.ent hE) (.inl ⟨guardIs_eq hg S.env, fun w' hw' => h.run n a w' S.env hw'⟩) (k.run _ w ⟨by rw [hd]; exact S.env.put hn v, S.own⟩)
/-- A guarded operation that does not run is taken first. -/
theorem ha_off (i : Nat) {d : Nat} (hi : opAt rl i = some o) (hd : o.dst = some d) (hg : guardIs rl.toArray env o.guard = some false) (hn : Nat.blt d n = true)
    (hs : Region.noSelect rl.toArray = true) (hf : Region.free   .any rl.toArray listed i = true) (hr : (Region.ready   .any rl.toArray listed).contains i = true) (hE : Ent l L0) [hq : PB Q]
    (k : HA P rl.toArray Q D w0 n ((d, undef) :: env) l L0 fuel (listed.setIfInBounds i true)) : HA P rl.toArray Q D w0 n env l L0 (fuel + 1) listed := .mk fun a w S => by
  refine wpAnyI_first (opAt_eq hi) (Region.noSelect_spec hs) (fun c a' w' q => hq.out _ _ _ _ _ q) fuel listed a w (Region.free_spec (opAt_eq hi) hf) (by simpa using hr) (S.own.ent hE) (.inr ⟨guardIs_eq hg S.env, rfl⟩) (k.run _ w ⟨by rw [hd]; exact S.env.put hn _, S.own⟩)
theorem ha_part {t : Nat} {p : Prop} [Decidable p] (hv : Slots.get env t = some (.bool (decide p))) (ht : p → HA P ops Q D w0 n ((t, .bool true) :: env) l L0 fuel listed) (hf : ¬ p → HA P ops Q D w0 n ((t, .bool false) :: env) l L0 fuel listed) : HA P ops Q D w0 n env l L0 fuel listed := .mk fun a w S => by
  by_cases hp : p
  · exact (ht hp).run a w ⟨S.env.sub (Slots.sub_cons (by rw [hv, decide_eq_true hp]) (Slots.sub_refl _)), S.own⟩
  · exact (hf hp).run a w ⟨S.env.sub (Slots.sub_cons (by rw [hv, decide_eq_false hp]) (Slots.sub_refl _)), S.own⟩
theorem ha_ent {l' : List HProp} (hE : Ent l l') (h : HA P ops Q D w0 n env l' L0 fuel listed) : HA P ops Q D w0 n env l L0 fuel listed := .mk fun a w S => h.run a w ⟨S.env, S.own.ent hE⟩
theorem ha_fact {p : Prop} (h : ∀ w, Own D w0 w l → p) (k : p → HA P ops Q D w0 n env l L0 fuel listed) : HA P ops Q D w0 n env l L0 fuel listed := .mk fun a w S => (k (h w S.own)).run a w S
theorem ha_done (hr : Region.ready .any ops listed = []) (h : HX Q .normal D w0 n env l) : HA P ops Q D w0 n env l L0 fuel listed := .mk fun a w S => by
  cases fuel with
  | zero => exact ⟨hr, h.run a w S⟩
  | succ f => exact ⟨fun _ => h.run a w S, by rw [hr]; simp⟩
theorem ha_all (rs : List Nat) (hr : Region.ready .any ops listed = rs) (hne : rs ≠ []) (h : ∀ i ∈ rs, HO P ops Q D w0 n env l L0 i fuel listed) : HA P ops Q D w0 n env l L0 (fuel + 1) listed := .mk fun a w S =>
  ⟨fun h0 => absurd (hr ▸ h0) hne, hr ▸ fun i hi => (h i hi).run a w S⟩
theorem ha_one (i : Nat) (hr : Region.ready .any ops listed = [i]) (h : HO P ops Q D w0 n env l L0 i fuel listed) : HA P ops Q D w0 n env l L0 (fuel + 1) listed :=
  ha_all [i] hr (by simp) fun j hj => by
    have : j = i := by simpa using hj
    subst this; exact h
theorem ha_two (i j : Nat) (hr : Region.ready .any ops listed = [i, j]) (h : HO P ops Q D w0 n env l L0 i fuel listed) (h' : HO P ops Q D w0 n env l L0 j fuel listed) : HA P ops Q D w0 n env l L0 (fuel + 1) listed :=
  ha_all [i, j] hr (by simp) fun k hk => by
    have : k = i ∨ k = j := by simpa using hk
    rcases this with rfl | rfl
    · exact h
    · exact h'
theorem ha_three (i j m : Nat) (hr : Region.ready .any ops listed = [i, j, m]) (h : HO P ops Q D w0 n env l L0 i fuel listed) (h' : HO P ops Q D w0 n env l L0 j fuel listed) (h'' : HO P ops Q D w0 n env l L0 m fuel listed) : HA P ops Q D w0 n env l L0 (fuel + 1) listed :=
  ha_all [i, j, m] hr (by simp) fun k hk => by
    have : k = i ∨ k = j ∨ k = m := by simpa using hk
    rcases this with rfl | rfl | rfl
    · exact h
    · exact h'
    · exact h''
theorem ho_val {i : Nat} (hi : opAt rl i = some o) {d : Nat} {v : Value} (h : OpVal P D w0 env l o v) (hd : o.dst = some d) (hg : guardIs rl.toArray env o.guard = some true) (hn : Nat.blt d n = true) (hE : Ent l L0) (k : HA P rl.toArray Q D w0 n ((d, v) :: env) l L0 fuel (listed.setIfInBounds i true)) : HO P rl.toArray Q D w0 n env l L0 i fuel listed := .mk fun a w S => by
  unfold wpOp
  simp only [opAt_eq hi]
  rw [if_pos (guardIs_eq hg S.env)]
  left
  unfold Oper.wp
  rw [h.run n a w S.env S.own, Oper.upon_value, hd]
  exact ⟨S.own.ent hE, k.run _ w ⟨S.env.put hn v, S.own⟩⟩
theorem ho_new {i : Nat} (hi : opAt rl i = some o) {d : Nat} {σ : Type} {v : σ → Value} {l' : σ → List HProp} (h : OpNew P D w0 env l o v l') (hd : o.dst = some d) (hg : guardIs rl.toArray env o.guard = some true) (hn : Nat.blt d n = true) (hE : ∀ s, Ent (l' s) L0) (k : ∀ s, HA P rl.toArray Q D w0 n ((d, v s) :: env) (l' s) L0 fuel (listed.setIfInBounds i true)) : HO P rl.toArray Q D w0 n env l L0 i fuel listed := .mk fun a w S => by
  unfold wpOp
  simp only [opAt_eq hi]
  rw [if_pos (guardIs_eq hg S.env)]
  left
  unfold Oper.wp
  obtain ⟨s, w', hr, H⟩ := h.run n a w S.env S.own
  rcases hr with hr | ⟨hr, hu⟩
  · rw [hr, Oper.upon_value, hd]
    exact ⟨H.ent (hE s), (k s).run _ w' ⟨S.env.put hn _, H⟩⟩
  · rw [hr, Oper.upon_skip, hd, ← hu]
    exact ⟨H.ent (hE s), (k s).run _ w' ⟨S.env.put hn _, H⟩⟩
theorem ho_new0 {i : Nat} (hi : opAt rl i = some o) {σ : Type} {v : σ → Value} {l' : σ → List HProp} (h : OpNew P D w0 env l o v l') (hd : o.dst = none) (hg : guardIs rl.toArray env o.guard = some true) (hE : ∀ s, Ent (l' s) L0) (k : ∀ s, HA P rl.toArray Q D w0 n env (l' s) L0 fuel (listed.setIfInBounds i true)) : HO P rl.toArray Q D w0 n env l L0 i fuel listed := .mk fun a w S => by
  unfold wpOp
  simp only [opAt_eq hi]
  rw [if_pos (guardIs_eq hg S.env)]
  left
  unfold Oper.wp
  obtain ⟨s, w', hr, H⟩ := h.run n a w S.env S.own
  rcases hr with hr | ⟨hr, hu⟩
  · rw [hr, Oper.upon_value, hd]
    exact ⟨H.ent (hE s), (k s).run _ w' ⟨S.env, H⟩⟩
  · rw [hr, Oper.upon_skip, hd]
    exact ⟨H.ent (hE s), (k s).run _ w' ⟨S.env, H⟩⟩
theorem ho_call {i : Nat} {d f : Nat} {args : List Operand} {ats : Array TypeId} {ty : TypeId} {pos : String} {after : Array Edge} {gd : Option (Nat × Bool)} (hi : opAt rl i = some ⟨some d, .call ⟨.value (.func f), args.toArray, ats⟩, ty, pos, after, gd⟩) {vs : List Value} {σ : Type} {v : σ → Value} {l' : σ → List HProp} (hcf : ∀ args w, (callFunc f args).run P w = .ok (.enter f args) w)
    (hv : evalL env args = some vs) (hg : guardIs rl.toArray env gd = some true) (hn : Nat.blt d n = true) (hc : ∀ w, Own D w0 w l → Calls P f vs.toArray w fun e w' => ∃ s, e = .returned (v s) ∧ Own D w0 w' (l' s)) (hE : ∀ s, Ent (l' s) L0)
    (k : ∀ s, HA P rl.toArray Q D w0 n ((d, v s) :: env) (l' s) L0 fuel (listed.setIfInBounds i true)) : HO P rl.toArray Q D w0 n env l L0 i fuel listed := .mk fun a w S => by
  unfold wpOp
  simp only [opAt_eq hi]
  rw [if_pos (guardIs_eq (o := ⟨some d, .call ⟨.value (.func f), args.toArray, ats⟩, ty, pos, after, gd⟩) hg S.env)]
  left
  unfold Oper.wp
  have hrun : (execOp a.eval ⟨some d, .call ⟨.value (.func f), args.toArray, ats⟩, ty, pos, after, gd⟩).run P w = .ok (.enter f vs.toArray) w := by
    simp [execOp, resolve, Deferred.ofValue, Act.eval, invoke, S.env.evals hv, hcf]
  rw [hrun, Oper.upon_enter]
  refine (hc w S.own).mono fun e w' ⟨s, he, H⟩ => ?_
  subst he
  exact ⟨H.ent (hE s), (k s).run _ w' ⟨S.env.put hn _, H⟩⟩
theorem ho_c {i : Nat} {d f : Nat} {args : List Operand} {ats : Array TypeId} {ty : TypeId} {pos : String} {after : Array Edge} {gd : Option (Nat × Bool)} (hi : opAt rl i = some ⟨some d, .call ⟨.value (.func f), args.toArray, ats⟩, ty, pos, after, gd⟩) {vs : List Value} {v : Value} {l' : List HProp} (hcf : ∀ args w, (callFunc f args).run P w = .ok (.enter f args) w)
    (hv : evalL env args = some vs) (hg : guardIs rl.toArray env gd = some true) (hn : Nat.blt d n = true) (hc : ∀ w, Own D w0 w l → Calls P f vs.toArray w fun e w' => e = .returned v ∧ Own D w0 w' l') (hE : Ent l' L0)
    (k : HA P rl.toArray Q D w0 n ((d, v) :: env) l' L0 fuel (listed.setIfInBounds i true)) : HO P rl.toArray Q D w0 n env l L0 i fuel listed :=
  ho_call (σ := Unit) (v := fun _ => v) (l' := fun _ => l') hi hcf hv hg hn (fun w H => (hc w H).mono fun e w' h => ⟨(), h⟩) (fun _ => hE) fun _ => k
end
end
end Slk
