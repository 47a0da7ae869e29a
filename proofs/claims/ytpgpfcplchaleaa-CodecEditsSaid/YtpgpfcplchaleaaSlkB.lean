import Derived.Test.YtpgpfcplchaleaaSlkA
set_option linter.unusedVariables false
set_option linter.unusedSimpArgs false
namespace Slk
open Go

/-! ### Slots -/
abbrev Slots := List (Nat × Value)
def Slots.get : Slots → Nat → Option Value
  | [], _ => none
  | (s, v) :: r, t => bif Nat.beq s t then some v else Slots.get r t
structure Env (n : Nat) (a : Act) (env : Slots) : Prop where
  size : a.tmps.size = n
  defers : a.defers = []
  get : ∀ t v, Slots.get env t = some v → a.tmps[t]? = some v
theorem Env.getD {n : Nat} {a : Act} {env : Slots} (h : Env n a env) {t : Nat} {v : Value} (e : Slots.get env t = some v) : a.tmps.getD t undef = v := by
  simp [h.get t v e]
theorem Env.put {n : Nat} {a : Act} {env : Slots} (h : Env n a env) {d : Nat} (hd : Nat.blt d n = true) (v : Value) : Env n (a.put (some d) v) ((d, v) :: env) := by
  have hd' : d < n := by simpa [Nat.blt_eq] using hd
  refine ⟨by simp [Act.put, h.size], h.defers, fun t u e => ?_⟩
  simp only [Slots.get] at e
  simp only [Act.put, Array.getElem?_setIfInBounds]
  cases hb : Nat.beq d t with
  | true =>
    have : d = t := by simpa using hb
    subst this
    rw [hb] at e
    simp only [cond_true, Option.some.injEq] at e
    simp [h.size, hd', e]
  | false =>
    have hne : d ≠ t := by rintro rfl; rw [show Nat.beq d d = true from by simp] at hb; cases hb
    rw [hb] at e
    simp only [cond_false] at e
    rw [if_neg hne]
    exact h.get t u e
theorem Env.putNone {n : Nat} {a : Act} {env : Slots} (h : Env n a env) (v : Value) : Env n (a.put none v) env := h
/-- Fewer slots known. -/
def Slots.sub (env env' : Slots) : Prop := ∀ t v, Slots.get env' t = some v → Slots.get env t = some v
theorem Env.sub {n : Nat} {a : Act} {env env' : Slots} (h : Env n a env) (k : Slots.sub env env') : Env n a env' := ⟨h.size, h.defers, fun t v e => h.get t v (k t v e)⟩
theorem Slots.sub_nil (env : Slots) : Slots.sub env [] := fun _ _ e => by cases e
theorem Slots.sub_cons {env r : Slots} {t : Nat} {v : Value} (h : Slots.get env t = some v) (k : Slots.sub env r) : Slots.sub env ((t, v) :: r) := by
  intro s u e
  simp only [Slots.get] at e
  cases hb : Nat.beq t s with
  | true =>
    have : t = s := by simpa using hb
    subst this
    rw [hb] at e
    simp only [cond_true, Option.some.injEq] at e
    subst e; exact h
  | false => rw [hb] at e; exact k s u e
theorem Slots.sub_refl (env : Slots) : Slots.sub env env := fun _ _ e => e

def evalO (env : Slots) : Operand → Option Value
  | .tmp t => Slots.get env t
  | .const v => some v
  | .global g => some (.pointer (some ⟨g, 0, none⟩))
  | .func f => some (.func (.func f) #[] #[])
theorem Env.eval {n : Nat} {a : Act} {env : Slots} (h : Env n a env) {x : Operand} {v : Value} (e : evalO env x = some v) : a.eval x = v := by
  cases x with
  | tmp t => exact h.getD e
  | const v => simpa [evalO, Act.eval] using e
  | global g => simpa [evalO, Act.eval] using e
  | func f => simpa [evalO, Act.eval] using e
def evalL (env : Slots) : List Operand → Option (List Value)
  | [] => some []
  | x :: r => match evalO env x, evalL env r with
    | some v, some vs => some (v :: vs)
    | _, _ => none
theorem Env.evals {n : Nat} {a : Act} {env : Slots} (h : Env n a env) {xs : List Operand} : ∀ {vs : List Value}, evalL env xs = some vs → xs.map a.eval = vs := by
  induction xs with
  | nil => intro vs e; simp [evalL] at e; subst e; rfl
  | cons x r ih =>
    intro vs e
    simp only [evalL] at e
    split at e
    · rename_i v vs' h1 h2
      simp only [Option.some.injEq] at e
      subst e
      simp [h.eval h1, ih h2]
    · cases e
/-- Indexed operands of a literal. -/
def evalP (env : Slots) : List (Nat × Operand) → Option (List (Nat × Value))
  | [] => some []
  | (i, x) :: r => match evalO env x, evalP env r with
    | some v, some vs => some ((i, v) :: vs)
    | _, _ => none
theorem Env.evalsP {n : Nat} {a : Act} {env : Slots} (h : Env n a env) {xs : List (Nat × Operand)} : ∀ {vs : List (Nat × Value)}, evalP env xs = some vs → xs.map (fun p => (p.1, a.eval p.2)) = vs := by
  induction xs with
  | nil => intro vs e; simp [evalP] at e; subst e; rfl
  | cons x r ih =>
    intro vs e
    obtain ⟨i, x⟩ := x
    simp only [evalP] at e
    split at e
    · rename_i v vs' h1 h2
      simp only [Option.some.injEq] at e
      subst e
      simp [h.eval h1, ih h2]
    · cases e

/-! ### The judgements -/
structure St (D : Nat → Prop) (w0 : World) (n : Nat) (env : Slots) (l : List HProp) (a : Act) (w : World) : Prop where
  env : Env n a env
  own : Own D w0 w l
abbrev Post := Exit → Act → World → Prop
/-- Code. -/
structure HC (P : Program) (Q : Post) (D : Nat → Prop) (w0 : World) (n : Nat) (env : Slots) (l : List HProp) (c : Code) : Prop where
  run : ∀ a w, St D w0 n env l a w → c.wp P Q a w
/-- A region's operations, one behind the other. -/
structure HL (P : Program) (ops : Array Oper) (Q : Post) (D : Nat → Prop) (w0 : World) (n : Nat) (env : Slots) (l : List HProp) (r : List Oper) : Prop where
  run : ∀ a w, St D w0 n env l a w → wpList P ops Q r a w
/-- The end of some code. -/
structure HX (Q : Post) (e : Exit) (D : Nat → Prop) (w0 : World) (n : Nat) (env : Slots) (l : List HProp) : Prop where
  run : ∀ a w, St D w0 n env l a w → Q e a w

section
variable {P : Program} {Q : Post} {D : Nat → Prop} {w0 : World} {n : Nat} {env : Slots} {l : List HProp} {ops : Array Oper}

/-- Another spelling of what is known. -/
theorem HC.weak {env' : Slots} {l' : List HProp} {c : Code} (he : Slots.sub env env') (hl : Ent l l') (h : HC P Q D w0 n env' l' c) : HC P Q D w0 n env l c := .mk fun a w S => h.run a w ⟨S.env.sub he, S.own.ent hl⟩
theorem HL.weak {env' : Slots} {l' : List HProp} {r : List Oper} (he : Slots.sub env env') (hl : Ent l l') (h : HL P ops Q D w0 n env' l' r) : HL P ops Q D w0 n env l r := .mk fun a w S => h.run a w ⟨S.env.sub he, S.own.ent hl⟩
theorem HX.weak {env' : Slots} {l' : List HProp} {e : Exit} (he : Slots.sub env env') (hl : Ent l l') (h : HX Q e D w0 n env' l') : HX Q e D w0 n env l := .mk fun a w S => h.run a w ⟨S.env.sub he, S.own.ent hl⟩
theorem HC.ent {l' : List HProp} {c : Code} (hl : Ent l l') (h : HC P Q D w0 n env l' c) : HC P Q D w0 n env l c := h.weak (Slots.sub_refl _) hl
theorem HL.ent {l' : List HProp} {r : List Oper} (hl : Ent l l') (h : HL P ops Q D w0 n env l' r) : HL P ops Q D w0 n env l r := h.weak (Slots.sub_refl _) hl
theorem HX.ent {l' : List HProp} {e : Exit} (hl : Ent l l') (h : HX Q e D w0 n env l') : HX Q e D w0 n env l := h.weak (Slots.sub_refl _) hl
theorem HC.ex {α : Type} {A : α → HProp} {c : Code} (h : ∀ x, HC P Q D w0 n env (A x :: l) c) : HC P Q D w0 n env ((fun h => ∃ x, A x h) :: l) c := .mk fun a w S => by
  obtain ⟨x, hx⟩ := S.own.ex
  exact (h x).run a w ⟨S.env, hx⟩
theorem HL.ex {α : Type} {A : α → HProp} {r : List Oper} (h : ∀ x, HL P ops Q D w0 n env (A x :: l) r) : HL P ops Q D w0 n env ((fun h => ∃ x, A x h) :: l) r := .mk fun a w S => by
  obtain ⟨x, hx⟩ := S.own.ex
  exact (h x).run a w ⟨S.env, hx⟩
theorem HX.ex {α : Type} {A : α → HProp} {e : Exit} (h : ∀ x, HX Q e D w0 n env (A x :: l)) : HX Q e D w0 n env ((fun h => ∃ x, A x h) :: l) := .mk fun a w S => by
  obtain ⟨x, hx⟩ := S.own.ex
  exact (h x).run a w ⟨S.env, hx⟩
theorem HC.pure {p : Prop} {c : Code} (h : p → HC P Q D w0 n env l c) : HC P Q D w0 n env (pureP p :: l) c := .mk fun a w S => (h S.own.pure.1).run a w ⟨S.env, S.own.pure.2⟩
theorem HL.pure {p : Prop} {r : List Oper} (h : p → HL P ops Q D w0 n env l r) : HL P ops Q D w0 n env (pureP p :: l) r := .mk fun a w S => (h S.own.pure.1).run a w ⟨S.env, S.own.pure.2⟩
theorem HX.pure {p : Prop} {e : Exit} (h : p → HX Q e D w0 n env l) : HX Q e D w0 n env (pureP p :: l) := .mk fun a w S => (h S.own.pure.1).run a w ⟨S.env, S.own.pure.2⟩

/-! ### Control -/
theorem hc_seq {x y : Code} (h : HC P (Exit.then (y.wp P Q) Q) D w0 n env l x) : HC P Q D w0 n env l (Code.seq x y) := .mk fun a w S => wp_seq (h.run a w S)
/-- The first part alone, with what it leaves: what follows is proved once. -/
theorem hc_mid {x y : Code} {σ : Type} (env' : σ → Slots) (l' : σ → List HProp)
    (h : ∀ K : Act → World → Prop, (∀ s a w, St D w0 n (env' s) (l' s) a w → K a w) → HC P (Exit.then K Q) D w0 n env l x)
    (k : ∀ s, HC P Q D w0 n (env' s) (l' s) y) : HC P Q D w0 n env l (Code.seq x y) :=
  hc_seq (h _ fun s a w S => (k s).run a w S)
theorem hc_skip (h : HX Q .normal D w0 n env l) : HC P Q D w0 n env l .skip := .mk fun a w S => wp_skip (h.run a w S)
theorem hc_label {i : Nat} (h : HX Q .normal D w0 n env l) : HC P Q D w0 n env l (.label i) := .mk fun a w S => wp_label (h.run a w S)
theorem hc_exit {i : Nat} (h : HX Q (.exit i) D w0 n env l) : HC P Q D w0 n env l (.exit i) := .mk fun a w S => wp_exit (h.run a w S)
theorem hc_ret (h : HX Q .ret D w0 n env l) : HC P Q D w0 n env l .ret := .mk fun a w S => wp_ret (h.run a w S)
theorem hc_block {i : Nat} {c : Code} (h : HC P (Exit.inBlock i Q) D w0 n env l c) : HC P Q D w0 n env l (.block i c) := .mk fun a w S => wp_block (h.run a w S)
theorem hc_cond {c : Operand} {x y : Code} {p : Prop} [Decidable p] (hc : evalO env c = some (.bool (decide p))) (ht : p → HC P Q D w0 n env l x) (hf : ¬ p → HC P Q D w0 n env l y) : HC P Q D w0 n env l (.cond c x y) := .mk fun a w S => by
  have e := S.env.eval hc
  by_cases hp : p
  · exact wp_cond_true (by rw [e, decide_eq_true hp]) ((ht hp).run a w S)
  · exact wp_cond_false (by rw [e, decide_eq_false hp]) ((hf hp).run a w S)
theorem hc_cond_true {c : Operand} {x y : Code} (hc : evalO env c = some (.bool true)) (ht : HC P Q D w0 n env l x) : HC P Q D w0 n env l (.cond c x y) := .mk fun a w S =>
  wp_cond_true (S.env.eval hc) (ht.run a w S)
theorem hc_cond_false {c : Operand} {x y : Code} (hc : evalO env c = some (.bool false)) (ht : HC P Q D w0 n env l y) : HC P Q D w0 n env l (.cond c x y) := .mk fun a w S =>
  wp_cond_false (S.env.eval hc) (ht.run a w S)
theorem hc_cond_bool {c : Operand} {x y : Code} {b : Bool} (hc : evalO env c = some (.bool b)) (ht : b = true → HC P Q D w0 n env l x) (hf : b = false → HC P Q D w0 n env l y) : HC P Q D w0 n env l (.cond c x y) := .mk fun a w S => by
  have e := S.env.eval hc
  cases b
  · exact wp_cond_false e ((hf rfl).run a w S)
  · exact wp_cond_true e ((ht rfl).run a w S)

/-- A loop: x: what the proof knows of a round's head; a measure. -/
theorem hc_loop {c : Code} {σ : Type} (env' : σ → Slots) (l' : σ → List HProp) (p : σ → Prop) (μ : σ → Nat) (s0 : σ) (h0 : p s0) (he : Slots.sub env (env' s0)) (hl : Ent l (l' s0))
    (h : ∀ s, p s → ∀ K : Act → World → Prop, (∀ s' a w, p s' → μ s' < μ s → St D w0 n (env' s') (l' s') a w → K a w) → HC P (Exit.then K Q) D w0 n (env' s) (l' s) c) : HC P Q D w0 n env l (.loop c) := .mk fun a w S => by
  refine wp_loop_ghost (fun k a w => ∃ s, μ s = k ∧ p s ∧ St D w0 n (env' s) (l' s) a w) (μ s0) ⟨s0, rfl, h0, S.env.sub he, S.own.ent hl⟩ ?_
  rintro k a w ⟨s, rfl, hp, S⟩
  refine wp_mono ((h s hp (fun a w => ∃ s', p s' ∧ μ s' < μ s ∧ St D w0 n (env' s') (l' s') a w) (fun s' a w hp' hm S' => ⟨s', hp', hm, S'⟩)).run a w S) ?_
  intro e a' w' q
  cases e with
  | normal => obtain ⟨s', hp', hm, S'⟩ := q; exact ⟨μ s', hm, s', rfl, hp', S'⟩
  | exit i => exact q
  | goto i => exact q
  | ret => exact q
  | panic ch => exact q
  | outgrown => exact q

theorem hx_then_normal {y : Code} {Q' : Post} (h : HC P Q' D w0 n env l y) : HX (Exit.then (y.wp P Q') Q) .normal D w0 n env l := ⟨h.run⟩
theorem hx_then_k {K : Act → World → Prop} (h : ∀ a w, St D w0 n env l a w → K a w) : HX (Exit.then K Q) .normal D w0 n env l := ⟨h⟩
theorem hx_then_exit {K : Act → World → Prop} {i : Nat} (h : HX Q (.exit i) D w0 n env l) : HX (Exit.then K Q) (.exit i) D w0 n env l := ⟨h.run⟩
theorem hx_then_ret {K : Act → World → Prop} (h : HX Q .ret D w0 n env l) : HX (Exit.then K Q) .ret D w0 n env l := ⟨h.run⟩
theorem hx_block_normal {i : Nat} (h : HX Q .normal D w0 n env l) : HX (Exit.inBlock i Q) .normal D w0 n env l := ⟨h.run⟩
theorem hx_block_ret {i : Nat} (h : HX Q .ret D w0 n env l) : HX (Exit.inBlock i Q) .ret D w0 n env l := ⟨h.run⟩
theorem hx_block_out {i : Nat} (h : HX Q .normal D w0 n env l) : HX (Exit.inBlock i Q) (.exit i) D w0 n env l := .mk fun a w S => by
  simp only [Exit.inBlock, if_true]; exact h.run a w S
theorem hx_block_on {i j : Nat} (hne : Nat.beq j i = false) (h : HX Q (.exit j) D w0 n env l) : HX (Exit.inBlock i Q) (.exit j) D w0 n env l := .mk fun a w S => by
  have : j ≠ i := by rintro rfl; rw [show Nat.beq j j = true from by simp] at hne; cases hne
  simp only [Exit.inBlock, if_neg this]; exact h.run a w S

/-! ### The end of a function, and its begin -/
def slotsOf : List ResultVar → Option (List Nat)
  | [] => some []
  | .tmp t :: r => (slotsOf r).map (t :: ·)
  | .cell _ _ :: _ => none
theorem results_0 {fn : Func} {R : Ending → World → Prop} {e : Exit} (he : e = .normal ∨ e = .ret) (hr : fn.results = #[]) (h : ∀ w, Own D w0 w l → R (.returned (.tuple #[])) w) :
    HX (bodyPost P fn R) e D w0 n env l := .mk fun a w S => by
  rcases he with rfl | rfl <;> exact ⟨S.env.defers, _, results_none hr _ _ _, h w S.own⟩
theorem results_1 {fn : Func} {R : Ending → World → Prop} {e : Exit} (he : e = .normal ∨ e = .ret) {t : Nat} (hr : fn.results = #[.tmp t]) {v : Value} (hv : Slots.get env t = some v) (h : ∀ w, Own D w0 w l → R (.returned v) w) :
    HX (bodyPost P fn R) e D w0 n env l := .mk fun a w S => by
  have k := results_tmp hr a.tmps P w
  rw [S.env.getD hv] at k
  rcases he with rfl | rfl <;> exact ⟨S.env.defers, _, k, h w S.own⟩
theorem results_2 {fn : Func} {R : Ending → World → Prop} {e : Exit} (he : e = .normal ∨ e = .ret) {t u : Nat} (hr : fn.results = #[.tmp t, .tmp u]) {v z : Value} (hv : Slots.get env t = some v) (hz : Slots.get env u = some z)
    (h : ∀ w, Own D w0 w l → R (.returned (.tuple #[v, z])) w) : HX (bodyPost P fn R) e D w0 n env l := .mk fun a w S => by
  have k := results_tmp2 hr a.tmps P w
  rw [S.env.getD hv, S.env.getD hz] at k
  rcases he with rfl | rfl <;> exact ⟨S.env.defers, _, k, h w S.own⟩
theorem results_3 {fn : Func} {R : Ending → World → Prop} {e : Exit} (he : e = .normal ∨ e = .ret) {t u s : Nat} (hr : fn.results = #[.tmp t, .tmp u, .tmp s]) {v z y : Value} (hv : Slots.get env t = some v) (hz : Slots.get env u = some z) (hy : Slots.get env s = some y)
    (h : ∀ w, Own D w0 w l → R (.returned (.tuple #[v, z, y])) w) : HX (bodyPost P fn R) e D w0 n env l := .mk fun a w S => by
  have k : (results fn a.tmps).run P w = .ok (.tuple #[a.tmps.getD t undef, a.tmps.getD u undef, a.tmps.getD s undef]) w := by simp [results, hr]
  rw [S.env.getD hv, S.env.getD hz, S.env.getD hy] at k
  rcases he with rfl | rfl <;> exact ⟨S.env.defers, _, k, h w S.own⟩

def argSlots : Nat → List Value → Slots
  | _, [] => []
  | i, v :: r => (i, v) :: argSlots (i + 1) r
theorem argSlots_get : ∀ (vs : List Value) (i t : Nat) (v : Value), Slots.get (argSlots i vs) t = some v → i ≤ t ∧ vs[t - i]? = some v
  | [], _, _, _, e => by cases e
  | u :: r, i, t, v, e => by
    simp only [argSlots, Slots.get] at e
    cases hb : Nat.beq i t with
    | true =>
      have : i = t := by simpa using hb
      subst this
      rw [hb] at e
      simp only [cond_true, Option.some.injEq] at e
      subst e; simp
    | false =>
      have hne : i ≠ t := by rintro rfl; rw [show Nat.beq i i = true from by simp] at hb; cases hb
      rw [hb] at e
      obtain ⟨h1, h2⟩ := argSlots_get r (i + 1) t v e
      refine ⟨by omega, ?_⟩
      have : t - i = (t - (i + 1)) + 1 := by omega
      rw [this]
      simpa using h2
/-- A function is called: its parameters are its first slots. -/
theorem hc_enter {f : FuncId} {fn : Func} {c : Code} {vs : List Value} {w : World} {R : Ending → World → Prop} {D : Nat → Prop} {w0 : World} {l : List HProp} (hf : P.funcs[f]? = some fn) (hb : fn.body = some c) (n : Nat) (hn : fn.ntmps = n)
    (hv : Nat.ble vs.length n = true) (H : Own D w0 w l) (h : HC P (bodyPost P fn R) D w0 n (argSlots 0 vs) l c) : Calls P f vs.toArray w R := by
  have hv' : vs.length ≤ n := by simpa using hv
  refine calls_of_wp hf hb (h.run _ w ⟨⟨by simp [hn]; omega, rfl, fun t v e => ?_⟩, H⟩)
  obtain ⟨_, h2⟩ := argSlots_get vs 0 t v e
  have hlt : t < vs.length := by
    rcases Nat.lt_or_ge t vs.length with h | h
    · exact h
    · simp [List.getElem?_eq_none h] at h2
  simp only [Nat.sub_zero] at h2
  rw [Array.getElem?_append_left (by simpa using hlt)]
  simpa using h2

/-! ### Regions -/
theorem hc_region {id : Nat} {r : List Oper} (h : HL P r.toArray Q D w0 n env l r) : HC P Q D w0 n env l (.region id r.toArray false) := .mk fun a w S => wp_region_lit (h.run a w S)
theorem hl_nil (h : HX Q .normal D w0 n env l) : HL P ops Q D w0 n env l [] := .mk fun a w S => wpList_nil (h.run a w S)
end

/-- An operation that yields a value and leaves the world. -/
structure OpVal (P : Program) (D : Nat → Prop) (w0 : World) (env : Slots) (l : List HProp) (o : Oper) (v : Value) : Prop where
  run : ∀ n a w, Env n a env → Own D w0 w l → (execOp a.eval o).run P w = .ok (.value v) w
/-- An operation that yields a value, and a world of which l' holds; x: what is new. -/
structure OpNew (P : Program) (D : Nat → Prop) (w0 : World) (env : Slots) (l : List HProp) (o : Oper) {σ : Type} (v : σ → Value) (l' : σ → List HProp) : Prop where
  run : ∀ n a w, Env n a env → Own D w0 w l → ∃ s w', ((execOp a.eval o).run P w = .ok (.value (v s)) w' ∨ ((execOp a.eval o).run P w = .ok .skip w' ∧ v s = undef)) ∧ Own D w0 w' (l' s)

section
variable {P : Program} {Q : Post} {D : Nat → Prop} {w0 : World} {n : Nat} {env : Slots} {l : List HProp} {ops : Array Oper} {r : List Oper} {o : Oper}

theorem hl_val {d : Nat} {v : Value} (h : OpVal P D w0 env l o v) (hd : o.dst = some d) (hg : o.guard = none) (hn : Nat.blt d n = true) (k : HL P ops Q D w0 n ((d, v) :: env) l r) : HL P ops Q D w0 n env l (o :: r) := .mk fun a w S => by
  refine wpList_plain hg fun K hK => ?_
  unfold Oper.wp
  rw [h.run n a w S.env S.own]
  rw [Oper.upon_value, hd]
  exact hK _ _ (k.run _ w ⟨S.env.put hn v, S.own⟩)
theorem hl_new {d : Nat} {σ : Type} {v : σ → Value} {l' : σ → List HProp} (h : OpNew P D w0 env l o v l') (hd : o.dst = some d) (hg : o.guard = none) (hn : Nat.blt d n = true) (k : ∀ s, HL P ops Q D w0 n ((d, v s) :: env) (l' s) r) : HL P ops Q D w0 n env l (o :: r) := .mk fun a w S => by
  refine wpList_plain hg fun K hK => ?_
  unfold Oper.wp
  obtain ⟨s, w', hr, H⟩ := h.run n a w S.env S.own
  rcases hr with hr | ⟨hr, hu⟩
  · rw [hr, Oper.upon_value, hd]
    exact hK _ _ ((k s).run _ w' ⟨S.env.put hn _, H⟩)
  · rw [hr, Oper.upon_skip, hd, ← hu]
    exact hK _ _ ((k s).run _ w' ⟨S.env.put hn _, H⟩)
theorem hl_new0 {σ : Type} {v : σ → Value} {l' : σ → List HProp} (h : OpNew P D w0 env l o v l') (hd : o.dst = none) (hg : o.guard = none) (k : ∀ s, HL P ops Q D w0 n env (l' s) r) : HL P ops Q D w0 n env l (o :: r) := .mk fun a w S => by
  refine wpList_plain hg fun K hK => ?_
  unfold Oper.wp
  obtain ⟨s, w', hr, H⟩ := h.run n a w S.env S.own
  rcases hr with hr | ⟨hr, hu⟩
  · rw [hr, Oper.upon_value, hd]
    exact hK _ _ ((k s).run _ w' ⟨S.env, H⟩)
  · rw [hr, Oper.upon_skip, hd]
    exact hK _ _ ((k s).run _ w' ⟨S.env, H⟩)

/-! guards: a slot is given with its literal; behind the split it is one -/
def guardSlot (ops : Array Oper) (j : Nat) : Option Nat := (ops[j]?).bind (·.dst)
theorem wanted_of {a : Act} {j : Nat} {want b : Bool} {t : Nat} {n : Nat} {env : Slots} (hg : o.guard = some (j, want)) (hj : guardSlot ops j = some t) (E : Env n a env) (hv : Slots.get env t = some (.bool b)) : Region.wanted o (yielded ops a.tmps) = (b == want) := by
  have h1 : ((ops[j]?).bind (·.dst)).bind (a.tmps[·]?) = some (.bool b) := by
    unfold guardSlot at hj
    rw [hj]
    exact E.get t _ hv
  simp only [Region.wanted, hg, yielded, h1]
  cases b <;> cases want <;> rfl
/-- A guarded operation that runs: as without its guard. -/
theorem hl_on {dst : Option Tmp} {op : Op} {ty : TypeId} {pos : String} {after : Array Edge} {j t : Nat} {want : Bool} (hj : guardSlot ops j = some t) (hv : Slots.get env t = some (.bool want)) (k : HL P ops Q D w0 n env l (⟨dst, op, ty, pos, after, none⟩ :: r)) : HL P ops Q D w0 n env l (⟨dst, op, ty, pos, after, some (j, want)⟩ :: r) := .mk fun a w S => by
  have hw := wanted_of (o := ⟨dst, op, ty, pos, after, some (j, want)⟩) rfl hj S.env hv
  have h := k.run a w S
  unfold wpList at h ⊢
  rw [if_pos (by rw [hw]; simp)]
  rw [if_pos (by simp [Region.wanted])] at h
  exact h
/-- A guarded operation that does not run. -/
theorem hl_off {j t d : Nat} {want b : Bool} (hg : o.guard = some (j, want)) (hj : guardSlot ops j = some t) (hv : Slots.get env t = some (.bool b)) (hne : (b == want) = false) (hd : o.dst = some d) (hn : Nat.blt d n = true) (k : HL P ops Q D w0 n ((d, undef) :: env) l r) : HL P ops Q D w0 n env l (o :: r) := .mk fun a w S => by
  have hw := wanted_of hg hj S.env hv
  unfold wpList
  rw [if_neg (by rw [hw, hne]; simp), hd]
  exact k.run _ w ⟨S.env.put hn _, S.own⟩
theorem hl_off0 {j t : Nat} {want b : Bool} (hg : o.guard = some (j, want)) (hj : guardSlot ops j = some t) (hv : Slots.get env t = some (.bool b)) (hne : (b == want) = false) (hd : o.dst = none) (k : HL P ops Q D w0 n env l r) : HL P ops Q D w0 n env l (o :: r) := .mk fun a w S => by
  have hw := wanted_of hg hj S.env hv
  unfold wpList
  rw [if_neg (by rw [hw, hne]; simp), hd]
  exact k.run _ w ⟨S.env, S.own⟩
/-- A test is parted. -/
theorem hl_part {t : Nat} {p : Prop} [Decidable p] (hv : Slots.get env t = some (.bool (decide p))) (ht : p → HL P ops Q D w0 n ((t, .bool true) :: env) l r) (hf : ¬ p → HL P ops Q D w0 n ((t, .bool false) :: env) l r) : HL P ops Q D w0 n env l r := .mk fun a w S => by
  by_cases hp : p
  · exact (ht hp).run a w ⟨S.env.sub (Slots.sub_cons (by rw [hv, decide_eq_true hp]) (Slots.sub_refl _)), S.own⟩
  · exact (hf hp).run a w ⟨S.env.sub (Slots.sub_cons (by rw [hv, decide_eq_false hp]) (Slots.sub_refl _)), S.own⟩
theorem hl_partb {t : Nat} {b : Bool} (hv : Slots.get env t = some (.bool b)) (ht : b = true → HL P ops Q D w0 n ((t, .bool true) :: env) l r) (hf : b = false → HL P ops Q D w0 n ((t, .bool false) :: env) l r) : HL P ops Q D w0 n env l r := .mk fun a w S => by
  cases b
  · exact (hf rfl).run a w ⟨S.env.sub (Slots.sub_cons hv (Slots.sub_refl _)), S.own⟩
  · exact (ht rfl).run a w ⟨S.env.sub (Slots.sub_cons hv (Slots.sub_refl _)), S.own⟩

/-- A call. -/
theorem hl_call {d f : Nat} {args : List Operand} {ats : Array TypeId} {ty : TypeId} {pos : String} {after : Array Edge} {vs : List Value} {σ : Type} {v : σ → Value} {l' : σ → List HProp} (hcf : ∀ args w, (callFunc f args).run P w = .ok (.enter f args) w)
    (hv : evalL env args = some vs) (hn : Nat.blt d n = true) (hc : ∀ w, Own D w0 w l → Calls P f vs.toArray w fun e w' => ∃ s, e = .returned (v s) ∧ Own D w0 w' (l' s))
    (k : ∀ s, HL P ops Q D w0 n ((d, v s) :: env) (l' s) r) : HL P ops Q D w0 n env l (⟨some d, .call ⟨.value (.func f), args.toArray, ats⟩, ty, pos, after, none⟩ :: r) := .mk fun a w S => by
  refine wpList_plain rfl fun K hK => ?_
  unfold Oper.wp
  have hrun : (execOp a.eval ⟨some d, .call ⟨.value (.func f), args.toArray, ats⟩, ty, pos, after, none⟩).run P w = .ok (.enter f vs.toArray) w := by
    simp [execOp, resolve, Deferred.ofValue, Act.eval, invoke, S.env.evals hv, hcf]
  rw [hrun, Oper.upon_enter]
  refine (hc w S.own).mono fun e w' ⟨s, he, H⟩ => ?_
  subst he
  exact hK _ _ ((k s).run _ w' ⟨S.env.put hn _, H⟩)
theorem hl_call0 {f : Nat} {args : List Operand} {ats : Array TypeId} {ty : TypeId} {pos : String} {after : Array Edge} {vs : List Value} {σ : Type} {v : σ → Value} {l' : σ → List HProp} (hcf : ∀ args w, (callFunc f args).run P w = .ok (.enter f args) w)
    (hv : evalL env args = some vs) (hc : ∀ w, Own D w0 w l → Calls P f vs.toArray w fun e w' => ∃ s, e = .returned (v s) ∧ Own D w0 w' (l' s))
    (k : ∀ s, HL P ops Q D w0 n env (l' s) r) : HL P ops Q D w0 n env l (⟨none, .call ⟨.value (.func f), args.toArray, ats⟩, ty, pos, after, none⟩ :: r) := .mk fun a w S => by
  refine wpList_plain rfl fun K hK => ?_
  unfold Oper.wp
  have hrun : (execOp a.eval ⟨none, .call ⟨.value (.func f), args.toArray, ats⟩, ty, pos, after, none⟩).run P w = .ok (.enter f vs.toArray) w := by
    simp [execOp, resolve, Deferred.ofValue, Act.eval, invoke, S.env.evals hv, hcf]
  rw [hrun, Oper.upon_enter]
  refine (hc w S.own).mono fun e w' ⟨s, he, H⟩ => ?_
  subst he
  exact hK _ _ ((k s).run _ w' ⟨S.env, H⟩)
end
end Slk
