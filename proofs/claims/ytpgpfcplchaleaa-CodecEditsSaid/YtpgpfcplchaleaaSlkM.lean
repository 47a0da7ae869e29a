import Derived.Test.YtpgpfcplchaleaaSlkL
import Derived.Laws.Cover3
set_option linter.unusedVariables false
set_option linter.unusedSimpArgs false
namespace Slk
open Go
/-! ### Several assertions in one -/
theorem Ent.flat {L l : List HProp} : Ent (stars L :: l) (L ++ l) := fun h hs => stars_append.2 hs
theorem Ent.fold {L l : List HProp} : Ent (L ++ l) (stars L :: l) := fun h hs => stars_append.1 hs
def exS {σ : Type} (L : σ → List HProp) : HProp := fun h => ∃ x, stars (L x) h
theorem Ent.exS {σ : Type} {L : σ → List HProp} {l : List HProp} (x : σ) : Ent (L x ++ l) (exS L :: l) := fun h hs => by
  obtain ⟨h1, h2, a, b⟩ := stars_append.1 hs
  exact ⟨h1, h2, ⟨x, a⟩, b⟩
theorem Own.exs {σ : Type} {L : σ → List HProp} {D : Nat → Prop} {w0 w : World} {l : List HProp} (H : Own D w0 w (exS L :: l)) : ∃ x, Own D w0 w (L x ++ l) := by
  obtain ⟨x, hx⟩ := Own.ex (A := fun x => stars (L x)) H
  exact ⟨x, hx.ent Ent.flat⟩
section
variable {P : Program} {Q : Post} {D : Nat → Prop} {w0 : World} {n : Nat} {env : Slots} {l : List HProp} {ops : Array Oper} {σ : Type} {L : σ → List HProp}
theorem HC.exs {c : Code} (k : ∀ x, HC P Q D w0 n env (L x ++ l) c) : HC P Q D w0 n env (exS L :: l) c := .mk fun a w S => by
  obtain ⟨x, H⟩ := Own.exs S.own
  exact (k x).run a w ⟨S.env, H⟩
theorem HL.exs {r : List Oper} (k : ∀ x, HL P ops Q D w0 n env (L x ++ l) r) : HL P ops Q D w0 n env (exS L :: l) r := .mk fun a w S => by
  obtain ⟨x, H⟩ := Own.exs S.own
  exact (k x).run a w ⟨S.env, H⟩
theorem HX.exs {e : Exit} (k : ∀ x, HX Q e D w0 n env (L x ++ l)) : HX Q e D w0 n env (exS L :: l) := .mk fun a w S => by
  obtain ⟨x, H⟩ := Own.exs S.own
  exact (k x).run a w ⟨S.env, H⟩
end
/-! ### Lists of bytes of one's own -/
def rowB (t : TypeId) (x : List UInt8) (c : Value) : HProp := fun h => ∃ A cap, c = .slice A x.length cap ∧ row A t 1 x.length cap (x.map u8v) h
def rowsB (t : TypeId) (xs : List (List UInt8)) (cs : List Value) : HProp := fun h => xs.length = cs.length ∧ stars (List.zipWith (rowB t) xs cs) h
section
variable {t : TypeId} {l : List HProp} {xs : List (List UInt8)} {cs : List Value} {x : List UInt8} {c : Value} {A : Option Addr} {cap : Nat}
theorem rowB_rep {h : Heap} (k : rowB t x c h) : Rep.rep x [c] h := by
  obtain ⟨A, cap, rfl, hr⟩ := k
  exact ⟨A, cap, rfl, hr.2.1, hr.2.2.1, x.map u8v, repL_bytes.2 rfl, row_rd _ hr⟩
theorem rowsB_repL {h : Heap} (k : rowsB t xs cs h) : repL xs cs h := by
  obtain ⟨hl, k⟩ := k
  induction xs generalizing cs h with
  | nil =>
    have : cs = [] := List.eq_nil_of_length_eq_zero (by simpa using hl.symm)
    subst this; rfl
  | cons x r ih =>
    match cs, hl with
    | c :: cr, hl =>
      obtain ⟨h1, h2, a, b, _, s1, s2⟩ := k
      exact ⟨[c], cr, rfl, Rep.mono s1 (rowB_rep a), repL_mono s2 (ih (by simpa using hl) b)⟩
theorem rowsB_nil : Ent l (rowsB t [] [] :: l) := fun h hs => ⟨fun _ => none, h, ⟨rfl, trivial⟩, hs, fun _ => .inl rfl, (fun b o e => by cases e), Hsub.refl h⟩
theorem rowsB_snoc' : Ent (rowsB t xs cs :: rowB t x c :: l) (rowsB t (xs ++ [x]) (cs ++ [c]) :: l) := by
  intro h hs
  obtain ⟨h1, h2, ⟨hl, a⟩, b, r⟩ := hs
  have h3 : stars (List.zipWith (rowB t) xs cs ++ (rowB t x c :: l)) h := stars_append.2 ⟨h1, h2, a, b, r⟩
  have e : List.zipWith (rowB t) xs cs ++ (rowB t x c :: l) = List.zipWith (rowB t) (xs ++ [x]) (cs ++ [c]) ++ l := by
    rw [List.zipWith_append hl]; simp
  rw [e] at h3
  obtain ⟨h4, h5, a', b', r'⟩ := stars_append.1 h3
  exact ⟨h4, h5, ⟨by simp [hl], a'⟩, b', r'⟩
theorem rowB_mk : Imp (row A t 1 x.length cap (x.map u8v)) (rowB t x (.slice A x.length cap)) := fun h hr => ⟨A, cap, rfl, hr⟩
theorem rowsB_snoc : Ent (rowsB t xs cs :: row A t 1 x.length cap (x.map u8v) :: l) (rowsB t (xs ++ [x]) (cs ++ [.slice A x.length cap]) :: l) := (Ent.cons (Ent.head rowB_mk)).trans rowsB_snoc'
theorem rowsB_split : Ent (rowsB t (x :: xs) (c :: cs) :: l) (rowB t x c :: rowsB t xs cs :: l) := by
  rintro h ⟨h1, h2, ⟨hl, h3, h4, a, b, d, s1, s2⟩, e, f, t1, t2⟩
  have : stars ([rowB t x c] ++ (List.zipWith (rowB t) xs cs ++ l)) h := by
    have := stars_append (l := rowB t x c :: List.zipWith (rowB t) xs cs) (l' := l).2 ⟨h1, h2, ⟨h3, h4, a, b, d, s1, s2⟩, e, f, t1, t2⟩
    simpa using this
  obtain ⟨h5, h6, p, q, r1, r2, r3⟩ := this
  obtain ⟨h7, h8, p', q', r'⟩ := (stars_append (l := List.zipWith (rowB t) xs cs) (l' := l)).1 q
  exact ⟨h5, h6, p, ⟨h7, h8, ⟨by simpa using hl, p'⟩, q', r'⟩, r1, r2, r3⟩
theorem stars_rowsB {r : List HProp} [h : Pick l (rowsB t xs cs) r] {y : Heap} (hs : stars l y) : repL xs cs y := by
  obtain ⟨h1, a, b⟩ := stars_pick (h := h) hs
  exact repL_mono b (rowsB_repL a)
end
/-! ### The rest of a slice -/
theorem row_cut {A : Option Addr} {t : TypeId} {sz n cap lo : Nat} {cs : List Value} (hlo : lo ≤ n) : Imp (row A t sz n cap cs) (row (if cap = lo then A else A.map (·.add (lo * sz))) t sz (n - lo) (cap - lo) (cs.drop (lo * sz))) := by
  rintro h ⟨h1, h2, h3, q⟩
  have hd : (cs.drop (lo * sz)).length = (n - lo) * sz := by rw [List.length_drop, h1, Nat.sub_mul]
  rcases q with ⟨rfl, q⟩ | ⟨b, pre, rest, rfl, q1, q2⟩
  · exact ⟨hd, by omega, by omega, .inl ⟨by split <;> rfl, by omega⟩⟩
  · by_cases hc : cap = lo
    · rw [if_pos hc]
      have hn : n = lo := by omega
      have he : cs.drop (lo * sz) = [] := List.drop_of_length_le (by rw [h1, hn]; exact Nat.le_refl _)
      rw [he]
      refine ⟨by rw [hn]; simp, by omega, by omega, .inr ⟨b, pre, cs ++ rest, rfl, by rw [show cap - lo - (n - lo) = 0 by omega]; simp, ?_⟩⟩
      simpa using q2
    · rw [if_neg hc]
      have hle : lo * sz ≤ cs.length := by rw [h1]; exact Nat.mul_le_mul_right _ hlo
      refine ⟨hd, by omega, by omega, .inr ⟨b, pre ++ cs.take (lo * sz), rest, ?_, by rw [show cap - lo - (n - lo) = cap - n by omega]; exact q1, ?_⟩⟩
      · simp [add_lit', List.length_take, Nat.min_eq_left hle]
      · rw [List.append_assoc pre, List.take_append_drop]; exact q2
section
variable {P : Program} {D : Nat → Prop} {w0 : World} {env : Slots} {l : List HProp} {dst : Option Tmp} {ty : TypeId} {pos : String} {after : Array Edge} {g : Option (Nat × Bool)} {x y : Operand} {t t' e : TypeId}
theorem ov_eqlN [h : TySlice P t e] {A : Option Addr} {n cap : Nat} (hx : evalO env x = some (.slice A n cap)) (hy : evalO env y = some (.slice none 0 0)) : OpVal P D w0 env l ⟨dst, .binOp .eql t x y t', ty, pos, after, g⟩ (.bool A.isNone) := .mk fun n' a w E H => by
  simp [execOp, E.eval hx, E.eval hy, eqGuard_at_slice, binOp, run_equal_slice_nil w t e _ _ _ h.out]
theorem ov_neqN [h : TySlice P t e] {A : Option Addr} {n cap : Nat} (hx : evalO env x = some (.slice A n cap)) (hy : evalO env y = some (.slice none 0 0)) : OpVal P D w0 env l ⟨dst, .binOp .neq t x y t', ty, pos, after, g⟩ (.bool (!A.isNone)) := .mk fun n' a w E H => by
  simp [execOp, E.eval hx, E.eval hy, eqGuard_at_slice, binOp, run_equal_slice_nil w t e _ _ _ h.out]
end
/-- A call, its answer hanging on what it found. -/
theorem Own.callx0 {P : Program} {f : Nat} {args : Array Value} {D : Nat → Prop} {w0 w : World} {l : List HProp} {σ : Type} {post : σ → List HProp} {v : σ → Value} (H : Own D w0 w l)
    (hc : ∀ D', (∀ A, Old D w0 A → Old D' w A) → (∀ B : HProp, (∀ h, stars l h → (∀ A, Old D w0 A → ∃ h1, A h1 ∧ Hsub h1 h) → B h) → Old D' w B) → Own D' w w [] → Calls P f args w fun e w' => ∃ s, e = .returned (v s) ∧ Own D' w w' (post s)) :
    Calls P f args w fun e w' => ∃ s, e = .returned (v s) ∧ Own D w0 w' (post s ++ l) := Own.callX (pre := []) H hc
/-- A part alone, whatever comes behind it. -/
theorem hc_cutn {P : Program} {Q : Post} {D : Nat → Prop} {w0 : World} {n : Nat} {env : Slots} {l : List HProp} {x : Code} {σ : Type} (env' : σ → Slots) (l' : σ → List HProp)
    (h : ∀ K : Act → World → Prop, (∀ s a w, St D w0 n (env' s) (l' s) a w → K a w) → HC P (Exit.then K Q) D w0 n env l x)
    (k : ∀ s, HX Q .normal D w0 n (env' s) (l' s)) : HC P Q D w0 n env l x := .mk fun a w S => by
  refine wp_mono ((h (fun a w => Q .normal a w) fun s a w S => (k s).run a w S).run a w S) ?_
  intro e a' w' q
  cases e <;> exact q
/-- A call that owns one assertion, wherever it stands. -/
theorem Own.callp (A : HProp) {P : Program} {f : Nat} {args : Array Value} {D : Nat → Prop} {w0 w : World} {l r post : List HProp} {v : Value} [hp : Pick l A r] (H : Own D w0 w l)
    (hc : ∀ D', (∀ A, Old D w0 A → Old D' w A) → (∀ B : HProp, (∀ h, stars r h → (∀ A, Old D w0 A → ∃ h1, A h1 ∧ Hsub h1 h) → B h) → Old D' w B) → Own D' w w [A] → Calls P f args w fun e w' => e = .returned v ∧ Own D' w w' post) :
    Calls P f args w fun e w' => e = .returned v ∧ Own D w0 w' (post ++ r) := Own.call (pre := [A]) (H.ent (Ent.perm hp.out)) hc
theorem Own.callpx (A : HProp) {P : Program} {f : Nat} {args : Array Value} {D : Nat → Prop} {w0 w : World} {l r : List HProp} {σ : Type} {post : σ → List HProp} {v : σ → Value} [hp : Pick l A r] (H : Own D w0 w l)
    (hc : ∀ D', (∀ A, Old D w0 A → Old D' w A) → (∀ B : HProp, (∀ h, stars r h → (∀ A, Old D w0 A → ∃ h1, A h1 ∧ Hsub h1 h) → B h) → Old D' w B) → Own D' w w [A] → Calls P f args w fun e w' => ∃ s, e = .returned (v s) ∧ Own D' w w' (post s)) :
    Calls P f args w fun e w' => ∃ s, e = .returned (v s) ∧ Own D w0 w' (post s ++ r) := Own.callX (pre := [A]) (H.ent (Ent.perm hp.out)) hc
theorem HL.rowB {P : Program} {Q : Post} {D : Nat → Prop} {w0 : World} {n : Nat} {env : Slots} {l : List HProp} {ops : Array Oper} {t : TypeId} {x : List UInt8} {c : Value} {rr : List Oper}
    (k : ∀ A cap, c = .slice A x.length cap → HL P ops Q D w0 n env (row A t 1 x.length cap (x.map u8v) :: l) rr) : HL P ops Q D w0 n env (Slk.rowB t x c :: l) rr := .mk fun a w S => by
  obtain ⟨h, hh, h1, h2, ⟨A, cap, e, hr⟩, q⟩ := S.own.own
  exact (k A cap e).run a w ⟨S.env, ⟨S.own.os, S.own.tape, S.own.output, S.own.size, S.own.old, h, hh, h1, h2, hr, q⟩⟩
end Slk
