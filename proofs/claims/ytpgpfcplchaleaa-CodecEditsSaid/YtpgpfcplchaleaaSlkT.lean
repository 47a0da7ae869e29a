import Derived.Test.YtpgpfcplchaleaaSlkS
import Derived.RangeFuncLeaves
import Derived.RangeFuncRecord
set_option linter.unusedVariables false
set_option linter.unusedSimpArgs false
namespace Slk
open Go
/-! ### Any one object of one's own -/
def ob (b : Nat) (o : Obj) : HProp := fun h => h b = some o
theorem Own.allocO {D : Nat → Prop} {w0 w : World} {l : List HProp} (H : Own D w0 w l) (o' : Obj) : Own D w0 (w.alloc o') (ob w.heap.size o' :: l) := by
  obtain ⟨h, a, b⟩ := H.own
  have hn : ∀ x o, h x = some o → x < w.heap.size := fun x o e => (Array.getElem?_eq_some_iff.1 (a x o e).1).1
  have hs : h w.heap.size = none := by
    cases e : h w.heap.size with
    | none => rfl
    | some o => exact absurd (hn _ _ e) (Nat.lt_irrefl _)
  refine ⟨H.os, H.tape, H.output, by have := H.size; simp; omega, fun x hx hd => ?_, fun x => if x = w.heap.size then some o' else h x, fun x o e => ?_, ?_⟩
  · rw [Go.RowKit.Below.heap_alloc _ _ _ (Nat.lt_of_lt_of_le hx H.size)]; exact H.old x hx hd
  · by_cases hx : x = w.heap.size
    · subst hx
      simp only [if_true, Option.some.injEq] at e
      subst e
      refine ⟨World.alloc_heap_new w _, fun hlt => ?_⟩
      have := H.size
      omega
    · simp only [hx, if_false] at e
      rw [Go.RowKit.Below.heap_alloc _ _ _ (hn _ _ e)]
      exact a x o e
  · refine ⟨fun x => if x = w.heap.size then some o' else none, h, by simp [ob], b, fun x => ?_, fun x o e => ?_, fun x o e => ?_⟩
    · by_cases hx : x = w.heap.size
      · subst hx; exact .inr hs
      · left; simp [hx]
    · by_cases hx : x = w.heap.size
      · simp only [hx, if_true] at e ⊢; exact e
      · simp [hx] at e
    · have : x ≠ w.heap.size := by rintro rfl; rw [hs] at e; cases e
      simp [this, e]
theorem Own.at_ob {D : Nat → Prop} {w0 w : World} {l : List HProp} {b : Nat} {o : Obj} (H : Own D w0 w (ob b o :: l)) : w.heap[b]? = some o := by
  obtain ⟨h, a, h1, h2, p, _, _, s1, _⟩ := H.own
  exact (a b _ (s1 _ _ p)).1
theorem Own.putO {D : Nat → Prop} {w0 w : World} {l : List HProp} {b : Nat} {o : Obj} (H : Own D w0 w (ob b o :: l)) (o' : Obj) : Own D w0 (w.putObj b o') (ob b o' :: l) := by
  have hb := H.at_ob
  have hlt : b < w.heap.size := (Array.getElem?_eq_some_iff.1 hb).1
  obtain ⟨h, a, h1, h2, p, q, d, s1, s2⟩ := H.own
  have hh2 : h2 b = none := by
    rcases d b with e | e
    · rw [p] at e; cases e
    · exact e
  refine ⟨H.os, H.tape, H.output, by rw [World.putObj_size]; exact H.size, fun x hx hd => ?_, fun x => if x = b then some o' else h x, fun x o e => ?_, ?_⟩
  · have : x ≠ b := by rintro rfl; exact hd ((a _ _ (s1 _ _ p)).2 hx)
    rw [World.putObj_heap_other this]; exact H.old x hx hd
  · by_cases hx : x = b
    · subst hx
      simp only [if_true, Option.some.injEq] at e
      subst e
      exact ⟨World.putObj_heap_same hlt, (a _ _ (s1 _ _ p)).2⟩
    · simp only [hx, if_false] at e
      rw [World.putObj_heap_other hx]
      exact a x o e
  · refine ⟨fun x => if x = b then some o' else none, h2, by simp [ob], q, fun x => ?_, fun x o e => ?_, fun x o e => ?_⟩
    · by_cases hx : x = b
      · subst hx; exact .inr hh2
      · left; simp [hx]
    · by_cases hx : x = b
      · simp only [hx, if_true] at e ⊢; exact e
      · simp [hx] at e
    · have : x ≠ b := by rintro rfl; rw [hh2] at e; cases e
      simp [this, s2 _ _ e]

/-! ### Code under a fence that lets all through -/
structure Easy (F : Fence) : Prop where
  fn : ∀ f, F.fn f
  depth : F.depth = none
  calls : ∀ {m : Nat} {P : Program} {f : FuncId} {args : Array Value} {w : World} {R : Ending → World → Prop}, Calls P f args w R → CallsIn F m P f args w R
theorem Easy.wide : Easy Fence.wide := ⟨fun _ => trivial, rfl, fun h => callsIn_wide.2 h⟩
theorem Easy.round (l : Nat) : Easy (Fence.wide.inRound l) := ⟨fun _ => trivial, rfl, fun {m P f args w R} h => show CallsIn (Fence.wide.inRound l) m P f args w R from (callsIn_wide.2 h : CallsIn Fence.wide m P f args w R)⟩
/-- A call of yield comes to a round. -/
def YieldAt (F : Fence) (m : Nat) (P : Program) (l : Nat) (args : Array Value) (W : World) (R : Ending → World → Prop) : Prop :=
  ∃ fn tmps assign body, (Instr.yield l args).run P W = .ok (.round l fn tmps assign body) W ∧ RoundIn F m P l fn tmps assign body W R
theorem semAt_of {ro : Option Nat} {ρ : Operand → Value} {o : Oper} {P : Program} {w w' : World} {x : Next} (h : (execOp ρ o).run P w = .ok x w') (hx : ∀ d, x ≠ .defer d) : (Oper.semAt ro ρ o).run P w = .ok x w' := by
  by_cases hd : ∃ c, o.op = .defer c
  · obtain ⟨c, hc⟩ := hd
    exfalso
    simp only [execOp, hc, Sem.run_bind] at h
    cases hr : (resolve ρ c o.type).run P w with
    | ok d w1 =>
      rw [hr] at h
      simp only [Result.andThen, Sem.run_pure] at h
      injection h with h1 _
      exact hx d h1.symm
    | halt k w1 => rw [hr] at h; simp [Result.andThen] at h
  · rw [Oper.semAt_eq _ _ _ (fun c e => hd ⟨c, e⟩)]; exact h

structure StD (ds : List Deferred) (D : Nat → Prop) (w0 : World) (n : Nat) (env : Slots) (l : List HProp) (a : Act) (w : World) : Prop where
  env : Env n { a with defers := [] } env
  ds : a.defers = ds
  own : Own D w0 w l
structure HCi (F : Fence) (ds : List Deferred) (P : Program) (Q : Post) (D : Nat → Prop) (w0 : World) (n : Nat) (env : Slots) (l : List HProp) (c : Code) : Prop where
  run : ∀ a w, StD ds D w0 n env l a w → c.wpIn F 0 P Q a w
structure HLi (F : Fence) (ds : List Deferred) (P : Program) (ops : Array Oper) (Q : Post) (D : Nat → Prop) (w0 : World) (n : Nat) (env : Slots) (l : List HProp) (r : List Oper) : Prop where
  run : ∀ a w, StD ds D w0 n env l a w → wpListIn F 0 P ops Q r a w
structure HXi (ds : List Deferred) (Q : Post) (e : Exit) (D : Nat → Prop) (w0 : World) (n : Nat) (env : Slots) (l : List HProp) : Prop where
  run : ∀ a w, StD ds D w0 n env l a w → Q e a w
theorem Env.plain {n : Nat} {a : Act} {env : Slots} (h : Env n a env) : Env n { a with defers := [] } env := ⟨h.size, rfl, h.get⟩
theorem StD.plain {D : Nat → Prop} {w0 : World} {n : Nat} {env : Slots} {l : List HProp} {a : Act} {w : World} (S : StD [] D w0 n env l a w) : St D w0 n env l a w := ⟨⟨S.env.size, S.ds, S.env.get⟩, S.own⟩
theorem St.toD {D : Nat → Prop} {w0 : World} {n : Nat} {env : Slots} {l : List HProp} {a : Act} {w : World} (S : St D w0 n env l a w) : StD [] D w0 n env l a w := ⟨S.env.plain, S.env.defers, S.own⟩
theorem StD.put {ds : List Deferred} {D : Nat → Prop} {w0 : World} {n : Nat} {env : Slots} {l l' : List HProp} {a : Act} {w w' : World} (S : StD ds D w0 n env l a w) {d : Nat} (hd : Nat.blt d n = true) (v : Value) (H : Own D w0 w' l') : StD ds D w0 n ((d, v) :: env) l' (a.put (some d) v) w' := ⟨S.env.put hd v, S.ds, H⟩

section
variable {F : Fence} {ds : List Deferred} {P : Program} {Q : Post} {D : Nat → Prop} {w0 : World} {n : Nat} {env : Slots} {l : List HProp} {ops : Array Oper} {r : List Oper} {o : Oper}
theorem HCi.ent {l' : List HProp} {c : Code} (hl : Ent l l') (h : HCi F ds P Q D w0 n env l' c) : HCi F ds P Q D w0 n env l c := .mk fun a w S => h.run a w ⟨S.env, S.ds, S.own.ent hl⟩
theorem HLi.ent {l' : List HProp} {r : List Oper} (hl : Ent l l') (h : HLi F ds P ops Q D w0 n env l' r) : HLi F ds P ops Q D w0 n env l r := .mk fun a w S => h.run a w ⟨S.env, S.ds, S.own.ent hl⟩
theorem HXi.ent {l' : List HProp} {e : Exit} (hl : Ent l l') (h : HXi ds Q e D w0 n env l') : HXi ds Q e D w0 n env l := .mk fun a w S => h.run a w ⟨S.env, S.ds, S.own.ent hl⟩
theorem HCi.ex {α : Type} {A : α → HProp} {c : Code} (h : ∀ x, HCi F ds P Q D w0 n env (A x :: l) c) : HCi F ds P Q D w0 n env ((fun h => ∃ x, A x h) :: l) c := .mk fun a w S => by
  obtain ⟨x, hx⟩ := S.own.ex
  exact (h x).run a w ⟨S.env, S.ds, hx⟩
theorem HCi.pure {p : Prop} {c : Code} (h : p → HCi F ds P Q D w0 n env l c) : HCi F ds P Q D w0 n env (pureP p :: l) c := .mk fun a w S => (h S.own.pure.1).run a w ⟨S.env, S.ds, S.own.pure.2⟩
theorem HXi.ex {α : Type} {A : α → HProp} {e : Exit} (h : ∀ x, HXi ds Q e D w0 n env (A x :: l)) : HXi ds Q e D w0 n env ((fun h => ∃ x, A x h) :: l) := .mk fun a w S => by
  obtain ⟨x, hx⟩ := S.own.ex
  exact (h x).run a w ⟨S.env, S.ds, hx⟩
theorem HXi.pure {p : Prop} {e : Exit} (h : p → HXi ds Q e D w0 n env l) : HXi ds Q e D w0 n env (pureP p :: l) := .mk fun a w S => (h S.own.pure.1).run a w ⟨S.env, S.ds, S.own.pure.2⟩
/-- In and out of the plain rules. -/
theorem hc_wide {c : Code} (h : HCi Fence.wide [] P Q D w0 n env l c) : HC P Q D w0 n env l c := .mk fun a w S => wpIn_wide.1 (h.run a w S.toD)
theorem hix_back {e : Exit} (h : HX Q e D w0 n env l) : HXi [] Q e D w0 n env l := .mk fun a w S => h.run a w S.plain

theorem hic_seq {x y : Code} (h : HCi F ds P (Exit.then (y.wpIn F 0 P Q) Q) D w0 n env l x) : HCi F ds P Q D w0 n env l (Code.seq x y) := .mk fun a w S => wpIn_seq (h.run a w S)
theorem hic_skip (h : HXi ds Q .normal D w0 n env l) : HCi F ds P Q D w0 n env l .skip := .mk fun a w S => wpIn_skip (h.run a w S)
theorem hic_label {i : Nat} (h : HXi ds Q .normal D w0 n env l) : HCi F ds P Q D w0 n env l (.label i) := .mk fun a w S => wpIn_label (h.run a w S)
theorem hic_exit {i : Nat} (h : HXi ds Q (.exit i) D w0 n env l) : HCi F ds P Q D w0 n env l (.exit i) := .mk fun a w S => wpIn_exit (h.run a w S)
theorem hic_ret (h : HXi ds Q .ret D w0 n env l) : HCi F ds P Q D w0 n env l .ret := .mk fun a w S => wpIn_ret (h.run a w S)
theorem hic_block {i : Nat} {c : Code} (h : HCi F ds P (Exit.inBlock i Q) D w0 n env l c) : HCi F ds P Q D w0 n env l (.block i c) := .mk fun a w S => wpIn_block (h.run a w S)
theorem hic_cond {c : Operand} {x y : Code} {p : Prop} [Decidable p] (hc : evalO env c = some (.bool (decide p))) (ht : p → HCi F ds P Q D w0 n env l x) (hf : ¬ p → HCi F ds P Q D w0 n env l y) : HCi F ds P Q D w0 n env l (.cond c x y) := .mk fun a w S => by
  have e : a.eval c = _ := S.env.eval hc
  by_cases hp : p
  · exact wpIn_cond_true (by rw [e, decide_eq_true hp]) ((ht hp).run a w S)
  · exact wpIn_cond_false (by rw [e, decide_eq_false hp]) ((hf hp).run a w S)
theorem hic_cond_true {c : Operand} {x y : Code} (hc : evalO env c = some (.bool true)) (ht : HCi F ds P Q D w0 n env l x) : HCi F ds P Q D w0 n env l (.cond c x y) := .mk fun a w S =>
  wpIn_cond_true (S.env.eval hc) (ht.run a w S)
theorem hic_cond_false {c : Operand} {x y : Code} (hc : evalO env c = some (.bool false)) (ht : HCi F ds P Q D w0 n env l y) : HCi F ds P Q D w0 n env l (.cond c x y) := .mk fun a w S =>
  wpIn_cond_false (S.env.eval hc) (ht.run a w S)
theorem hic_cond_T {c : Operand} {x y : Code} {p : Prop} [Decidable p] (hc : evalO env c = some (.bool (decide p))) (hp : p) (ht : HCi F ds P Q D w0 n env l x) : HCi F ds P Q D w0 n env l (.cond c x y) :=
  hic_cond hc (fun _ => ht) (fun h => absurd hp h)
theorem hic_cond_F {c : Operand} {x y : Code} {p : Prop} [Decidable p] (hc : evalO env c = some (.bool (decide p))) (hp : ¬ p) (ht : HCi F ds P Q D w0 n env l y) : HCi F ds P Q D w0 n env l (.cond c x y) :=
  hic_cond hc (fun h => absurd h hp) (fun _ => ht)
theorem hix_then_normal {y : Code} {Q' : Post} (h : HCi F ds P Q' D w0 n env l y) : HXi ds (Exit.then (y.wpIn F 0 P Q') Q) .normal D w0 n env l := ⟨h.run⟩
theorem hix_then_normalW {y : Code} {Q' : Post} (h : HCi Fence.wide ds P Q' D w0 n env l y) : HXi ds (Exit.then (y.wp P Q') Q) .normal D w0 n env l := ⟨fun a w S => wpIn_wide.1 (h.run a w S)⟩
theorem hix_then_exit {K : Act → World → Prop} {i : Nat} (h : HXi ds Q (.exit i) D w0 n env l) : HXi ds (Exit.then K Q) (.exit i) D w0 n env l := ⟨h.run⟩
theorem hix_then_ret {K : Act → World → Prop} (h : HXi ds Q .ret D w0 n env l) : HXi ds (Exit.then K Q) .ret D w0 n env l := ⟨h.run⟩
theorem hix_block_normal {i : Nat} (h : HXi ds Q .normal D w0 n env l) : HXi ds (Exit.inBlock i Q) .normal D w0 n env l := ⟨h.run⟩
theorem hix_block_ret {i : Nat} (h : HXi ds Q .ret D w0 n env l) : HXi ds (Exit.inBlock i Q) .ret D w0 n env l := ⟨h.run⟩
theorem hix_block_out {i : Nat} (h : HXi ds Q .normal D w0 n env l) : HXi ds (Exit.inBlock i Q) (.exit i) D w0 n env l := .mk fun a w S => by
  simp only [Exit.inBlock, if_true]; exact h.run a w S
theorem hix_block_on {i j : Nat} (hne : Nat.beq j i = false) (h : HXi ds Q (.exit j) D w0 n env l) : HXi ds (Exit.inBlock i Q) (.exit j) D w0 n env l := .mk fun a w S => by
  have : j ≠ i := by rintro rfl; rw [show Nat.beq j j = true from by simp] at hne; cases hne
  simp only [Exit.inBlock, if_neg this]; exact h.run a w S
/-- What follows is proved once: the first part ends in a state of the family. -/
theorem hic_mid {x y : Code} {σ : Type} (env' : σ → Slots) (l' : σ → List HProp)
    (h : ∀ K : Act → World → Prop, (∀ s a w, StD ds D w0 n (env' s) (l' s) a w → K a w) → HCi F ds P (Exit.then K Q) D w0 n env l x)
    (k : ∀ s, HCi F ds P Q D w0 n (env' s) (l' s) y) : HCi F ds P Q D w0 n env l (Code.seq x y) :=
  hic_seq (h _ fun s a w S => (k s).run a w S)
theorem hix_k {K : Act → World → Prop} {σ : Type} {env' : σ → Slots} {l' : σ → List HProp} (hK : ∀ s a w, StD ds D w0 n (env' s) (l' s) a w → K a w) (s : σ) (he : Slots.sub env (env' s)) (hl : Ent l (l' s)) : HXi ds (Exit.then K Q) .normal D w0 n env l :=
  ⟨fun a w S => hK s a w ⟨S.env.sub he, S.ds, S.own.ent hl⟩⟩

theorem hic_region {id : Nat} {r : List Oper} (h : HLi F ds P r.toArray Q D w0 n env l r) : HCi F ds P Q D w0 n env l (.region id r.toArray false) := .mk fun a w S => wpIn_region_lit (h.run a w S)
theorem hil_nil (h : HXi ds Q .normal D w0 n env l) : HLi F ds P ops Q D w0 n env l [] := .mk fun a w S => wpListIn_nil (h.run a w S)
theorem hil_val' (hF : Easy F) {d : Nat} {v : Value} (h : OpVal P D w0 env l o v) (hd : o.dst = some d) (hg : o.guard = none) (hn : Nat.blt d n = true) (k : HLi F ds P ops Q D w0 n ((d, v) :: env) l r) : HLi F ds P ops Q D w0 n env l (o :: r) := .mk fun a w S => by
  refine wpListIn_plain hg fun K hK => ?_
  unfold Oper.wpIn
  refine ⟨fun f _ => hF.fn f, ?_⟩
  have h0 := h.run n { a with defers := [] } w S.env S.own
  have h1 : (execOp a.eval o).run P w = .ok (.value v) w := h0
  rw [semAt_of h1 (by intro d e; cases e), Oper.uponIn_value, hd]
  exact hK _ _ (k.run _ w (S.put hn v S.own))
theorem hil_new' (hF : Easy F) {d : Nat} {σ : Type} {v : σ → Value} {l' : σ → List HProp} (h : OpNew P D w0 env l o v l') (hd : o.dst = some d) (hg : o.guard = none) (hn : Nat.blt d n = true) (k : ∀ s, HLi F ds P ops Q D w0 n ((d, v s) :: env) (l' s) r) : HLi F ds P ops Q D w0 n env l (o :: r) := .mk fun a w S => by
  refine wpListIn_plain hg fun K hK => ?_
  unfold Oper.wpIn
  refine ⟨fun f _ => hF.fn f, ?_⟩
  obtain ⟨s, w', hr, H⟩ := h.run n { a with defers := [] } w S.env S.own
  rcases hr with hr | ⟨hr, hu⟩
  · have h1 : (execOp a.eval o).run P w = _ := hr
    rw [semAt_of h1 (by intro d e; cases e), Oper.uponIn_value, hd]
    exact hK _ _ ((k s).run _ w' (S.put hn _ H))
  · have h1 : (execOp a.eval o).run P w = _ := hr
    rw [semAt_of h1 (by intro d e; cases e), Oper.uponIn_skip, hd, ← hu]
    exact hK _ _ ((k s).run _ w' (S.put hn _ H))
theorem hil_new0' (hF : Easy F) {σ : Type} {v : σ → Value} {l' : σ → List HProp} (h : OpNew P D w0 env l o v l') (hd : o.dst = none) (hg : o.guard = none) (k : ∀ s, HLi F ds P ops Q D w0 n env (l' s) r) : HLi F ds P ops Q D w0 n env l (o :: r) := .mk fun a w S => by
  refine wpListIn_plain hg fun K hK => ?_
  unfold Oper.wpIn
  refine ⟨fun f _ => hF.fn f, ?_⟩
  obtain ⟨s, w', hr, H⟩ := h.run n { a with defers := [] } w S.env S.own
  rcases hr with hr | ⟨hr, hu⟩
  · have h1 : (execOp a.eval o).run P w = _ := hr
    rw [semAt_of h1 (by intro d e; cases e), Oper.uponIn_value, hd]
    exact hK _ _ ((k s).run _ w' ⟨S.env, S.ds, H⟩)
  · have h1 : (execOp a.eval o).run P w = _ := hr
    rw [semAt_of h1 (by intro d e; cases e), Oper.uponIn_skip, hd]
    exact hK _ _ ((k s).run _ w' ⟨S.env, S.ds, H⟩)
/-- In a fence of this text's two. -/
class EasyI (F : Fence) : Prop where out : Easy F
instance : EasyI Fence.wide := ⟨Easy.wide⟩
instance (l : Nat) : EasyI (Fence.wide.inRound l) := ⟨Easy.round l⟩
theorem hil_val [hF : EasyI F] {d : Nat} {v : Value} (h : OpVal P D w0 env l o v) (hd : o.dst = some d) (hg : o.guard = none) (hn : Nat.blt d n = true) (k : HLi F ds P ops Q D w0 n ((d, v) :: env) l r) : HLi F ds P ops Q D w0 n env l (o :: r) := hil_val' hF.out h hd hg hn k
theorem hil_new [hF : EasyI F] {d : Nat} {σ : Type} {v : σ → Value} {l' : σ → List HProp} (h : OpNew P D w0 env l o v l') (hd : o.dst = some d) (hg : o.guard = none) (hn : Nat.blt d n = true) (k : ∀ s, HLi F ds P ops Q D w0 n ((d, v s) :: env) (l' s) r) : HLi F ds P ops Q D w0 n env l (o :: r) := hil_new' hF.out h hd hg hn k
theorem hil_u [hF : EasyI F] {d : Nat} {v : Value} {l' : List HProp} (h : OpNew P D w0 env l o (fun _ : Unit => v) (fun _ => l')) (hd : o.dst = some d) (hg : o.guard = none) (hn : Nat.blt d n = true) (k : HLi F ds P ops Q D w0 n ((d, v) :: env) l' r) : HLi F ds P ops Q D w0 n env l (o :: r) := hil_new h hd hg hn fun _ => k
theorem hil_u0 [hF : EasyI F] {v : Value} {l' : List HProp} (h : OpNew P D w0 env l o (fun _ : Unit => v) (fun _ => l')) (hd : o.dst = none) (hg : o.guard = none) (k : HLi F ds P ops Q D w0 n env l' r) : HLi F ds P ops Q D w0 n env l (o :: r) := hil_new0' hF.out h hd hg fun _ => k
theorem hil_call [hF : EasyI F] {d f : Nat} {args : List Operand} {ats : Array TypeId} {ty : TypeId} {pos : String} {after : Array Edge} {vs : List Value} {σ : Type} {v : σ → Value} {l' : σ → List HProp} (hcf : ∀ args w, (callFunc f args).run P w = .ok (.enter f args) w)
    (hv : evalL env args = some vs) (hn : Nat.blt d n = true) (hc : ∀ w, Own D w0 w l → Calls P f vs.toArray w fun e w' => ∃ s, e = .returned (v s) ∧ Own D w0 w' (l' s))
    (k : ∀ s, HLi F ds P ops Q D w0 n ((d, v s) :: env) (l' s) r) : HLi F ds P ops Q D w0 n env l (⟨some d, .call ⟨.value (.func f), args.toArray, ats⟩, ty, pos, after, none⟩ :: r) := .mk fun a w S => by
  refine wpListIn_plain rfl fun K hK => ?_
  unfold Oper.wpIn
  refine ⟨fun f _ => hF.out.fn f, ?_⟩
  have hrun : (execOp a.eval ⟨some d, .call ⟨.value (.func f), args.toArray, ats⟩, ty, pos, after, none⟩).run P w = .ok (.enter f vs.toArray) w := by
    have he : args.map a.eval = vs := S.env.evals hv
    simp [execOp, resolve, Deferred.ofValue, Act.eval, invoke, he, hcf]
  rw [semAt_of hrun (by intro d e; cases e), Oper.uponIn_enter]
  refine ⟨fun h => (by rw [hF.out.depth] at h; cases h), hF.out.calls ((hc w S.own).mono fun e w' ⟨s, he, H⟩ => ?_)⟩
  subst he
  exact hK _ _ ((k s).run _ w' (S.put hn _ H))
theorem hil_c [hF : EasyI F] {d f : Nat} {args : List Operand} {ats : Array TypeId} {ty : TypeId} {pos : String} {after : Array Edge} {vs : List Value} {v : Value} {l' : List HProp} (hcf : ∀ args w, (callFunc f args).run P w = .ok (.enter f args) w)
    (hv : evalL env args = some vs) (hn : Nat.blt d n = true) (hc : ∀ w, Own D w0 w l → Calls P f vs.toArray w fun e w' => e = .returned v ∧ Own D w0 w' l')
    (k : HLi F ds P ops Q D w0 n ((d, v) :: env) l' r) : HLi F ds P ops Q D w0 n env l (⟨some d, .call ⟨.value (.func f), args.toArray, ats⟩, ty, pos, after, none⟩ :: r) :=
  hil_call (σ := Unit) (v := fun _ => v) (l' := fun _ => l') hcf hv hn (fun w H => (hc w H).mono fun e w' h => ⟨(), h⟩) fun _ => k
/-- The call of yield. -/
theorem hil_yield {d lp : Nat} {fx : Operand} {args : List Operand} {ats : Array TypeId} {ty : TypeId} {pos : String} {after : Array Edge} {vs : List Value} {v : Value} {l' : List HProp} (hf : evalO env fx = some (.func (.yield lp) #[] #[]))
    (hv : evalL env args = some vs) (hn : Nat.blt d n = true) (hc : ∀ w, Own D w0 w l → YieldAt Fence.wide 0 P lp vs.toArray w fun e w' => e = .returned v ∧ Own D w0 w' l')
    (k : HLi Fence.wide ds P ops Q D w0 n ((d, v) :: env) l' r) : HLi Fence.wide ds P ops Q D w0 n env l (⟨some d, .call ⟨.value fx, args.toArray, ats⟩, ty, pos, after, none⟩ :: r) := .mk fun a w S => by
  refine wpListIn_plain rfl fun K hK => ?_
  unfold Oper.wpIn
  refine ⟨fun f _ => trivial, ?_⟩
  obtain ⟨fn, tmps, assign, body, hy, hR⟩ := hc w S.own
  have hrun : (execOp a.eval ⟨some d, .call ⟨.value fx, args.toArray, ats⟩, ty, pos, after, none⟩).run P w = .ok (.round lp fn tmps assign body) w := by
    have he : args.map a.eval = vs := S.env.evals hv
    have hfe : a.eval fx = _ := S.env.eval hf
    simp [execOp, resolve, Deferred.ofValue, hfe, invoke, he, hy]
  rw [semAt_of hrun (by intro d e; cases e), Oper.uponIn_round]
  refine ⟨fun h => (by simp [Fence.wide] at h), hR.mono fun e w' ⟨he, H⟩ => ?_⟩
  subst he
  exact hK _ _ (k.run _ w' (S.put hn _ H))

/-! ### The statement itself -/
/-- The loop's record, and the block for deferred calls. -/
def loopP (lp dp : Nat) (rec : Loop) (st : LoopState) : HProp := fun h => stars [ob lp (.loop { rec with state := st, pending := none }), ob dp (.deferred (some []))] h
theorem loopP_open {lp dp : Nat} {rec : Loop} {st : LoopState} {r : List HProp} : Ent (loopP lp dp rec st :: r) (ob lp (.loop { rec with state := st, pending := none }) :: ob dp (.deferred (some [])) :: r) := fun h e => stars_allP.1 e
theorem loopP_close {lp dp : Nat} {rec : Loop} {st : LoopState} {r : List HProp} : Ent (ob lp (.loop { rec with state := st, pending := none }) :: ob dp (.deferred (some [])) :: r) (loopP lp dp rec st :: r) := fun h e => stars_allP.2 e
/-- What an iterator keeps to: N calls of yield, L between them. -/
def SeqOwn (P : Program) (D : Nat → Prop) (w0 : World) (gf : Nat) (lb : List Value) (N : Nat) (enc : Nat → Value) (L : Nat → List HProp) : Prop :=
  ∀ (lp : Nat) (X : HProp) (W : World), Own D w0 W (X :: L 0) →
    (∀ k W, k < N → Own D w0 W (X :: L k) → YieldAt Fence.wide 0 P lp #[enc k] W fun e W' => e = .returned (.bool true) ∧ Own D w0 W' (X :: L (k + 1))) →
    Calls P gf (.func (.yield lp) #[] #[] :: lb).toArray W fun e W' => ∃ v, e = .returned v ∧ Own D w0 W' (X :: L N)
def RoundK (P : Program) (lp : Nat) (body : Code) (R : Ending → World → Prop) : Act → World → Prop := fun a1 w1 => ∃ w2, (Instr.beginRound lp).run P w1 = .ok () w2 ∧ body.wpIn (Fence.wide.inRound lp) 0 P (roundPost P lp R) a1 w2
def RoundR (D : Nat → Prop) (w0 : World) (l : List HProp) : Ending → World → Prop := fun e W' => e = .returned (.bool true) ∧ Own D w0 W' l
theorem hix_begin {lp dp : Nat} {rec : Loop} {body : Code} {R : Ending → World → Prop} (h : HCi (Fence.wide.inRound lp) [] P (roundPost P lp R) D w0 n env (loopP lp dp rec .busy :: l) body) :
    HXi [] (Exit.then (RoundK P lp body R) (fun _ _ _ => False)) .normal D w0 n env (loopP lp dp rec .ready :: l) := .mk fun a w S => by
  have H := S.own.ent loopP_open
  exact ⟨_, run_beginRound H.at_ob rfl, h.run a _ ⟨S.env, S.ds, (H.putO _).ent loopP_close⟩⟩
theorem hix_end {lp dp : Nat} {rec : Loop} {l' : List HProp} (hl : Ent l (loopP lp dp rec .busy :: l')) : HXi [] (roundPost P lp (RoundR D w0 (loopP lp dp rec .ready :: l'))) .normal D w0 n env l := .mk fun a w S => by
  have H := (S.own.ent hl).ent loopP_open
  exact ⟨_, _, run_endRound none H.at_ob, rfl, (H.putO _).ent loopP_close⟩
theorem hc_rangeFunc {g : Operand} {p : Tmp} {assign body : Code} {gf : Nat} {lb : List Value} (hg : evalO env g = some (.func (.func gf) #[] lb.toArray)) (eg : ∀ args w, (callFunc gf args).run P w = .ok (.enter gf args) w) (hp : Nat.blt p n = true)
    (N : Nat) (enc : Nat → Value) (L : Nat → List HProp) (h0 : Ent l (L 0)) (hseq : SeqOwn P D w0 gf lb N enc L)
    (hround : ∀ lp dp rec k, k < N → HCi (Fence.wide.inRound lp) [] P (Exit.then (RoundK P lp body (RoundR D w0 (loopP lp dp rec .ready :: L (k + 1)))) (fun _ _ _ => False)) D w0 n ((p, enc k) :: env) (loopP lp dp rec .ready :: L k) assign)
    (hdone : ∀ dp, HXi [⟨.collected dp, #[]⟩] Q .normal D w0 n env (ob dp (.deferred (some [])) :: L N)) :
    HC P Q D w0 n env l (.rangeFunc g #[p] assign body) := .mk fun a w S => by
  refine (wpIn_wide (n := 0)).1 (wpIn_rangeFunc ?_)
  intro fn hfn
  obtain ⟨rec, hrec⟩ : ∃ rec : Loop, rec = { state := .ready, pending := none, fn, tmps := a.tmps, params := #[p], assign, body, defers := w.heap.size } := ⟨_, rfl⟩
  have H1 := (((S.own.ent h0).allocO (.deferred (some []))).allocO (.loop rec))
  rw [World.size_alloc] at H1
  have H2 : Own D w0 ((w.alloc (.deferred (some []))).alloc (.loop rec)) (loopP (w.heap.size + 1) w.heap.size rec .ready :: L 0) := by
    refine Own.ent ?_ loopP_close
    have : ({ rec with state := .ready, pending := none } : Loop) = rec := by rw [hrec]
    rw [this]; exact H1
  have hge : a.eval g = _ := S.env.eval hg
  refine ⟨w.heap.size + 1, [{ target := .collected w.heap.size, args := #[] }], (w.alloc (.deferred (some []))).alloc (.loop rec), { target := .fn (.func gf) lb.toArray, args := #[.func (.yield (w.heap.size + 1)) #[] #[]] }, (w.alloc (.deferred (some []))).alloc (.loop rec), gf,
    (.func (.yield (w.heap.size + 1)) #[] #[] :: lb).toArray, (w.alloc (.deferred (some []))).alloc (.loop rec), ?_, ?_, ?_, ?_, fun h => by simp [Fence.wide] at h, ?_⟩
  · rw [hrec]; exact run_enterLoop_outer _ _ _ _ _
  · simp only [resolve, hge]
    simp [go_sem]
  · intro f' _; trivial
  · simp [invoke, go_sem, eg]
  · refine callsIn_wide.2 ((hseq (w.heap.size + 1) _ _ H2 ?_).mono ?_)
    · intro k W hk H
      have hl := (H.ent loopP_open).at_ob
      have hy := run_yield (P := P) (args := #[enc k]) hl (by rw [hrec]; rfl)
      refine ⟨_, _, _, _, hy, roundIn_of_wpIn trivial ?_⟩
      have hb := (hround (w.heap.size + 1) w.heap.size rec k hk).run { tmps := a.tmps.setIfInBounds p (enc k), defers := [] } W ⟨?_, rfl, H⟩
      · subst hrec
        unfold RoundK RoundR at hb
        simpa using hb
      · exact (S.env.put hp (enc k)).plain
    · rintro e W2 ⟨v, rfl, H⟩
      have H3 := H.ent loopP_open
      refine ⟨none, _, run_endLoop (P := P) H3.at_ob (by simp), ?_⟩
      refine (hdone w.heap.size).run _ _ ⟨S.env.plain, by rw [S.env.defers]; rfl, (H3.putO _).ent (Ent.drop (Ent.refl _))⟩
/-! ### The end of a function that holds such a statement -/
theorem hc_enterM {f : FuncId} {fn : Func} {c : Code} {vs : List Value} {w : World} {R : Ending → World → Prop} {D : Nat → Prop} {w0 : World} {l : List HProp} (hf : P.funcs[f]? = some fn) (hb : fn.body = some c) (n : Nat) (hn : fn.ntmps = n)
    (hv : Nat.ble vs.length n = true) (H : Own D w0 w l) (h : HC P (bodyPostM Fence.wide 0 P fn R) D w0 n (argSlots 0 vs) l c) : Calls P f vs.toArray w R := by
  have hv' : vs.length ≤ n := by simpa using hv
  refine (callsIn_wide (n := 0)).1 (callsIn_of_wp_marks (args := vs.toArray) hf hb trivial (wpIn_wide.2 (h.run _ w ⟨⟨by simp [hn]; omega, rfl, fun t v e => ?_⟩, H⟩)))
  obtain ⟨_, h2⟩ := argSlots_get vs 0 t v e
  have hlt : t < vs.length := by
    rcases Nat.lt_or_ge t vs.length with h | h
    · exact h
    · simp [List.getElem?_eq_none h] at h2
  simp only [Nat.sub_zero] at h2
  rw [Array.getElem?_append_left (by simpa using hlt)]
  simpa using h2
theorem resultsM0_2 {fn : Func} {R : Ending → World → Prop} {e : Exit} (he : e = .normal ∨ e = .ret) {t u : Nat} (hr : fn.results = #[.tmp t, .tmp u]) {v z : Value} (hv : Slots.get env t = some v) (hz : Slots.get env u = some z)
    (h : ∀ w, Own D w0 w l → R (.returned (.tuple #[v, z])) w) : HX (bodyPostM Fence.wide 0 P fn R) e D w0 n env l := .mk fun a w S => by
  have k := results_tmp2 hr a.tmps P w
  rw [S.env.getD hv, S.env.getD hz] at k
  rcases he with rfl | rfl <;> (simp only [bodyPostM, S.env.defers, LeavesInM, LeavesIn]; exact ⟨_, k, h w S.own⟩)
theorem resultsM_2 {fn : Func} {R : Ending → World → Prop} {e : Exit} (he : e = .normal ∨ e = .ret) {t u dp : Nat} (hr : fn.results = #[.tmp t, .tmp u]) {v z : Value} (hv : Slots.get env t = some v) (hz : Slots.get env u = some z) {l' : List HProp} [hl : Pick l (ob dp (.deferred (some []))) l']
    (h : ∀ w, Own D w0 w l' → R (.returned (.tuple #[v, z])) w) : HXi [⟨.collected dp, #[]⟩] (bodyPostM Fence.wide 0 P fn R) e D w0 n env l := .mk fun a w S => by
  have H := S.own.ent (Ent.perm hl.out)
  have k := results_tmp2 hr a.tmps P (w.putObj dp (.deferred none))
  rw [show a.tmps.getD t undef = v from S.env.getD hv, show a.tmps.getD u undef = z from S.env.getD hz] at k
  have hL : LeavesInM Fence.wide 0 P fn a.tmps R a.defers .returning w := by
    rw [S.ds]
    exact ⟨by simp, .inl ⟨dp, _, rfl, run_takeDeferred H.at_ob, _, k, h _ ((H.putO _).ent (Ent.drop (Ent.refl _)))⟩⟩
  rcases he with rfl | rfl <;> exact hL
end
end Slk
