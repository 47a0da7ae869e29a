import Derived.Test.YtijaldfiaeafgaaM2
set_option linter.unusedVariables false
namespace Slk
open Go
/-- Calls that own two or three assertions. -/
theorem Own.callp2 (A B : HProp) {P : Program} {f : Nat} {args : Array Value} {D : Nat → Prop} {w0 w : World} {l r r2 post : List HProp} {v : Value} [hp : Pick l A r] [hq : Pick r B r2] (H : Own D w0 w l)
    (hc : ∀ D', (∀ A, Old D w0 A → Old D' w A) → (∀ B : HProp, (∀ h, stars r2 h → (∀ A, Old D w0 A → ∃ h1, A h1 ∧ Hsub h1 h) → B h) → Old D' w B) → Own D' w w [A, B] → Calls P f args w fun e w' => e = .returned v ∧ Own D' w w' post) :
    Calls P f args w fun e w' => e = .returned v ∧ Own D w0 w' (post ++ r2) := Own.call (pre := [A, B]) (H.ent (Ent.perm (hp.out.trans (List.Perm.cons _ hq.out)))) hc
theorem Own.callpx2 (A B : HProp) {P : Program} {f : Nat} {args : Array Value} {D : Nat → Prop} {w0 w : World} {l r r2 : List HProp} {σ : Type} {post : σ → List HProp} {v : σ → Value} [hp : Pick l A r] [hq : Pick r B r2] (H : Own D w0 w l)
    (hc : ∀ D', (∀ A, Old D w0 A → Old D' w A) → (∀ B : HProp, (∀ h, stars r2 h → (∀ A, Old D w0 A → ∃ h1, A h1 ∧ Hsub h1 h) → B h) → Old D' w B) → Own D' w w [A, B] → Calls P f args w fun e w' => ∃ s, e = .returned (v s) ∧ Own D' w w' (post s)) :
    Calls P f args w fun e w' => ∃ s, e = .returned (v s) ∧ Own D w0 w' (post s ++ r2) := Own.callX (pre := [A, B]) (H.ent (Ent.perm (hp.out.trans (List.Perm.cons _ hq.out)))) hc
theorem Own.callp3 (A B C : HProp) {P : Program} {f : Nat} {args : Array Value} {D : Nat → Prop} {w0 w : World} {l r r2 r3 post : List HProp} {v : Value} [hp : Pick l A r] [hq : Pick r B r2] [hs : Pick r2 C r3] (H : Own D w0 w l)
    (hc : ∀ D', (∀ A, Old D w0 A → Old D' w A) → (∀ B : HProp, (∀ h, stars r3 h → (∀ A, Old D w0 A → ∃ h1, A h1 ∧ Hsub h1 h) → B h) → Old D' w B) → Own D' w w [A, B, C] → Calls P f args w fun e w' => e = .returned v ∧ Own D' w w' post) :
    Calls P f args w fun e w' => e = .returned v ∧ Own D w0 w' (post ++ r3) := Own.call (pre := [A, B, C]) (H.ent (Ent.perm (hp.out.trans (List.Perm.cons _ (hq.out.trans (List.Perm.cons _ hs.out)))))) hc
end Slk
