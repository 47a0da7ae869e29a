import Derived.Test.YtpgpfcplchaleaaSlkN
set_option linter.unusedVariables false
set_option linter.unusedSimpArgs false
namespace Slk
open Go

instance Pick.appNil (m : List HProp) (A : HProp) (r : List HProp) [h : Pick m A r] : Pick ([] ++ m) A r := ⟨h.out⟩
instance Pick.appCons (B : HProp) (l m : List HProp) (A : HProp) (r : List HProp) [h : Pick (B :: (l ++ m)) A r] : Pick ((B :: l) ++ m) A r := ⟨h.out⟩
instance PickB.appNil (m : List HProp) (b : Nat) (t : TypeId) (cs : List Value) (r : List HProp) [h : PickB m b t cs r] : PickB ([] ++ m) b t cs r := ⟨h.out⟩
instance PickB.appCons (B : HProp) (l m : List HProp) (b : Nat) (t : TypeId) (cs : List Value) (r : List HProp) [h : PickB (B :: (l ++ m)) b t cs r] : PickB ((B :: l) ++ m) b t cs r := ⟨h.out⟩
instance PickR.appNil (m : List HProp) (A : Option Addr) (t : TypeId) (sz n cap : Nat) (cs : List Value) (r : List HProp) [h : PickR m A t sz n cap cs r] : PickR ([] ++ m) A t sz n cap cs r := ⟨h.out⟩
instance PickR.appCons (B : HProp) (l m : List HProp) (A : Option Addr) (t : TypeId) (sz n cap : Nat) (cs : List Value) (r : List HProp) [h : PickR (B :: (l ++ m)) A t sz n cap cs r] : PickR ((B :: l) ++ m) A t sz n cap cs r := ⟨h.out⟩
/-- One list out of another one, whatever the order. -/
theorem Ent.pick {A : HProp} {l r r' : List HProp} [h : Pick l A r] (k : Ent r r') : Ent l (A :: r') := (Ent.perm h.out).trans (Ent.cons k)

/-! ### Tests whose outcome is known; slots that are kept -/
section
variable {P : Program} {Q : Post} {D : Nat → Prop} {w0 : World} {n : Nat} {env : Slots} {l : List HProp} {ops : Array Oper} {r tail : List Oper}
theorem hc_cond_T {c : Operand} {x y : Code} {p : Prop} [Decidable p] (hc : evalO env c = some (.bool (decide p))) (hp : p) (ht : HC P Q D w0 n env l x) : HC P Q D w0 n env l (.cond c x y) :=
  hc_cond hc (fun _ => ht) (fun h => absurd hp h)
theorem hc_cond_F {c : Operand} {x y : Code} {p : Prop} [Decidable p] (hc : evalO env c = some (.bool (decide p))) (hp : ¬ p) (ht : HC P Q D w0 n env l y) : HC P Q D w0 n env l (.cond c x y) :=
  hc_cond hc (fun h => absurd h hp) (fun _ => ht)
theorem hl_partT {t : Nat} {p : Prop} [Decidable p] (hv : Slots.get env t = some (.bool (decide p))) (hp : p) (k : HL P ops Q D w0 n ((t, .bool true) :: env) l r) : HL P ops Q D w0 n env l r := hl_part hv (fun _ => k) (fun h => absurd hp h)
theorem hl_partF {t : Nat} {p : Prop} [Decidable p] (hv : Slots.get env t = some (.bool (decide p))) (hp : ¬ p) (k : HL P ops Q D w0 n ((t, .bool false) :: env) l r) : HL P ops Q D w0 n env l r := hl_part hv (fun h => absurd h hp) (fun _ => k)
theorem hq_partT {t : Nat} {p : Prop} [Decidable p] (hv : Slots.get env t = some (.bool (decide p))) (hp : p) (k : HQ P ops Q D w0 n ((t, .bool true) :: env) l r) : HQ P ops Q D w0 n env l r := hq_part hv (fun _ => k) (fun h => absurd hp h)
theorem hq_partF {t : Nat} {p : Prop} [Decidable p] (hv : Slots.get env t = some (.bool (decide p))) (hp : ¬ p) (k : HQ P ops Q D w0 n ((t, .bool false) :: env) l r) : HQ P ops Q D w0 n env l r := hq_part hv (fun h => absurd h hp) (fun _ => k)
theorem ht_partT {t : Nat} {p : Prop} [Decidable p] (hv : Slots.get env t = some (.bool (decide p))) (hp : p) (k : HT P ops Q D w0 n ((t, .bool true) :: env) l tail r) : HT P ops Q D w0 n env l tail r := ht_part hv (fun _ => k) (fun h => absurd hp h)
theorem ht_partF {t : Nat} {p : Prop} [Decidable p] (hv : Slots.get env t = some (.bool (decide p))) (hp : ¬ p) (k : HT P ops Q D w0 n ((t, .bool false) :: env) l tail r) : HT P ops Q D w0 n env l tail r := ht_part hv (fun h => absurd h hp) (fun _ => k)
theorem ha_partT {t fuel : Nat} {listed : Array Bool} {L0 : List HProp} {p : Prop} [Decidable p] (hv : Slots.get env t = some (.bool (decide p))) (hp : p) (k : HA P ops Q D w0 n ((t, .bool true) :: env) l L0 fuel listed) : HA P ops Q D w0 n env l L0 fuel listed := ha_part hv (fun _ => k) (fun h => absurd hp h)
theorem ha_partF {t fuel : Nat} {listed : Array Bool} {L0 : List HProp} {p : Prop} [Decidable p] (hv : Slots.get env t = some (.bool (decide p))) (hp : ¬ p) (k : HA P ops Q D w0 n ((t, .bool false) :: env) l L0 fuel listed) : HA P ops Q D w0 n env l L0 fuel listed := ha_part hv (fun h => absurd h hp) (fun _ => k)
theorem ha_partb {t fuel : Nat} {listed : Array Bool} {L0 : List HProp} {b : Bool} (hv : Slots.get env t = some (.bool b)) (ht : b = true → HA P ops Q D w0 n ((t, .bool true) :: env) l L0 fuel listed) (hf : b = false → HA P ops Q D w0 n ((t, .bool false) :: env) l L0 fuel listed) : HA P ops Q D w0 n env l L0 fuel listed := .mk fun a w S => by
  cases b
  · exact (hf rfl).run a w ⟨S.env.sub (Slots.sub_cons hv (Slots.sub_refl _)), S.own⟩
  · exact (ht rfl).run a w ⟨S.env.sub (Slots.sub_cons hv (Slots.sub_refl _)), S.own⟩
/-- A guarded operation whose guard did not run itself. -/
theorem hl_offU {o : Oper} {j t d : Nat} {want : Bool} {vs : Array Value} (hg : o.guard = some (j, want)) (hj : guardSlot ops j = some t) (hv : Slots.get env t = some (.tuple vs)) (hd : o.dst = some d) (hn : Nat.blt d n = true) (k : HL P ops Q D w0 n ((d, undef) :: env) l r) : HL P ops Q D w0 n env l (o :: r) := .mk fun a w S => by
  have hw := wanted_undef hg hj S.env hv
  unfold wpList
  rw [if_neg (by rw [hw]; simp), hd]
  exact k.run _ w ⟨S.env.put hn _, S.own⟩
theorem hq_offU {o : Oper} {j t d : Nat} {want : Bool} {vs : Array Value} (hg : o.guard = some (j, want)) (hj : guardSlot ops j = some t) (hv : Slots.get env t = some (.tuple vs)) (hd : o.dst = some d) (hn : Nat.blt d n = true) (k : HQ P ops Q D w0 n ((d, undef) :: env) l r) : HQ P ops Q D w0 n env l (o :: r) := .mk fun a E => by
  have hw := wanted_undef hg hj E hv
  unfold wpQuiet
  rw [if_neg (by rw [hw]; simp), hd]
  exact k.run _ (E.put hn _)
/-- A guarded operation that does not run, where others are not yet done. -/
theorem ho_off {i d fuel : Nat} {listed : Array Bool} {L0 : List HProp} {rl : List Oper} {o : Oper} (hi : opAt rl i = some o) (hd : o.dst = some d) (hg : guardIs rl.toArray env o.guard = some false) (hn : Nat.blt d n = true) (hE : Ent l L0) (k : HA P rl.toArray Q D w0 n ((d, undef) :: env) l L0 fuel (listed.setIfInBounds i true)) : HO P rl.toArray Q D w0 n env l L0 i fuel listed := .mk fun a w S => by
  unfold wpOp
  simp only [opAt_eq hi]
  rw [if_neg (by rw [guardIs_eq hg S.env]; simp)]
  rw [hd]
  exact ⟨S.own.ent hE, k.run _ w ⟨S.env.put hn _, S.own⟩⟩
/-- The slots of a list, as they stand. -/
def keepL (env : Slots) : List Nat → Option Slots
  | [] => some []
  | t :: r => match Slots.get env t, keepL env r with
    | some v, some k => some ((t, v) :: k)
    | _, _ => none
theorem keepL_sub : ∀ {ks : List Nat} {kl : Slots}, keepL env ks = some kl → Slots.sub env kl
  | [], kl, h => by simp only [keepL, Option.some.injEq] at h; subst h; exact Slots.sub_nil _
  | t :: r, kl, h => by
    simp only [keepL] at h
    split at h
    · rename_i v k h1 h2
      simp only [Option.some.injEq] at h
      subst h
      exact Slots.sub_cons h1 (keepL_sub h2)
    · cases h
theorem hc_loopK0 {c : Code} {σ : Type} (ks : List Nat) {kl : Slots} (hk : keepL env ks = some kl) (l' : σ → List HProp) (p : σ → Prop) (μ : σ → Nat) (s0 : σ) (h0 : p s0) (hl : Ent l (l' s0))
    (h : ∀ s, p s → ∀ K : Act → World → Prop, (∀ s' a w, p s' → μ s' < μ s → St D w0 n kl (l' s') a w → K a w) → HC P (Exit.then K Q) D w0 n kl (l' s) c) : HC P Q D w0 n env l (.loop c) :=
  hc_loop (fun _ => kl) l' p μ s0 h0 (keepL_sub hk) hl h
theorem hc_loops0 {c : Code} {σ : Type} (ks : List Nat) {kl : Slots} (hk : keepL env ks = some kl) (p : σ → Prop) (μ : σ → Nat) (s0 : σ) (h0 : p s0)
    (h : ∀ s, p s → ∀ K : Act → World → Prop, (∀ s' a w, p s' → μ s' < μ s → St D w0 n kl l a w → K a w) → HC P (Exit.then K Q) D w0 n kl l c) : HC P Q D w0 n env l (.loop c) := hc_loopK0 ks hk (fun _ => l) p μ s0 h0 (Ent.refl _) h
theorem hc_loopK1 {c : Code} {σ : Type} (ks : List Nat) {kl : Slots} (hk : keepL env ks = some kl) (m0 : Nat) (v0 : σ → Value) (l' : σ → List HProp) (p : σ → Prop) (μ : σ → Nat) (s0 : σ) (h0 : p s0) (e0 : Slots.get env m0 = some (v0 s0)) (hl : Ent l (l' s0))
    (h : ∀ s, p s → ∀ K : Act → World → Prop, (∀ s' a w, p s' → μ s' < μ s → St D w0 n ((m0, v0 s') :: kl) (l' s') a w → K a w) → HC P (Exit.then K Q) D w0 n ((m0, v0 s) :: kl) (l' s) c) : HC P Q D w0 n env l (.loop c) :=
  hc_loop (fun s => (m0, v0 s) :: kl) l' p μ s0 h0 (Slots.sub_cons e0 (keepL_sub hk)) hl h
theorem hc_loops1 {c : Code} {σ : Type} (ks : List Nat) {kl : Slots} (hk : keepL env ks = some kl) (m0 : Nat) (v0 : σ → Value) (p : σ → Prop) (μ : σ → Nat) (s0 : σ) (h0 : p s0) (e0 : Slots.get env m0 = some (v0 s0))
    (h : ∀ s, p s → ∀ K : Act → World → Prop, (∀ s' a w, p s' → μ s' < μ s → St D w0 n ((m0, v0 s') :: kl) l a w → K a w) → HC P (Exit.then K Q) D w0 n ((m0, v0 s) :: kl) l c) : HC P Q D w0 n env l (.loop c) :=
  hc_loop (fun s => (m0, v0 s) :: kl) (fun _ => l) p μ s0 h0 (Slots.sub_cons e0 (keepL_sub hk)) (Ent.refl _) h
theorem hc_loopK2 {c : Code} {σ : Type} (ks : List Nat) {kl : Slots} (hk : keepL env ks = some kl) (m0 : Nat) (v0 : σ → Value) (m1 : Nat) (v1 : σ → Value) (l' : σ → List HProp) (p : σ → Prop) (μ : σ → Nat) (s0 : σ) (h0 : p s0) (e0 : Slots.get env m0 = some (v0 s0)) (e1 : Slots.get env m1 = some (v1 s0)) (hl : Ent l (l' s0))
    (h : ∀ s, p s → ∀ K : Act → World → Prop, (∀ s' a w, p s' → μ s' < μ s → St D w0 n ((m0, v0 s') :: (m1, v1 s') :: kl) (l' s') a w → K a w) → HC P (Exit.then K Q) D w0 n ((m0, v0 s) :: (m1, v1 s) :: kl) (l' s) c) : HC P Q D w0 n env l (.loop c) :=
  hc_loop (fun s => (m0, v0 s) :: (m1, v1 s) :: kl) l' p μ s0 h0 (Slots.sub_cons e0 (Slots.sub_cons e1 (keepL_sub hk))) hl h
theorem hc_loops2 {c : Code} {σ : Type} (ks : List Nat) {kl : Slots} (hk : keepL env ks = some kl) (m0 : Nat) (v0 : σ → Value) (m1 : Nat) (v1 : σ → Value) (p : σ → Prop) (μ : σ → Nat) (s0 : σ) (h0 : p s0) (e0 : Slots.get env m0 = some (v0 s0)) (e1 : Slots.get env m1 = some (v1 s0))
    (h : ∀ s, p s → ∀ K : Act → World → Prop, (∀ s' a w, p s' → μ s' < μ s → St D w0 n ((m0, v0 s') :: (m1, v1 s') :: kl) l a w → K a w) → HC P (Exit.then K Q) D w0 n ((m0, v0 s) :: (m1, v1 s) :: kl) l c) : HC P Q D w0 n env l (.loop c) :=
  hc_loop (fun s => (m0, v0 s) :: (m1, v1 s) :: kl) (fun _ => l) p μ s0 h0 (Slots.sub_cons e0 (Slots.sub_cons e1 (keepL_sub hk))) (Ent.refl _) h
theorem hc_loopK3 {c : Code} {σ : Type} (ks : List Nat) {kl : Slots} (hk : keepL env ks = some kl) (m0 : Nat) (v0 : σ → Value) (m1 : Nat) (v1 : σ → Value) (m2 : Nat) (v2 : σ → Value) (l' : σ → List HProp) (p : σ → Prop) (μ : σ → Nat) (s0 : σ) (h0 : p s0) (e0 : Slots.get env m0 = some (v0 s0)) (e1 : Slots.get env m1 = some (v1 s0)) (e2 : Slots.get env m2 = some (v2 s0)) (hl : Ent l (l' s0))
    (h : ∀ s, p s → ∀ K : Act → World → Prop, (∀ s' a w, p s' → μ s' < μ s → St D w0 n ((m0, v0 s') :: (m1, v1 s') :: (m2, v2 s') :: kl) (l' s') a w → K a w) → HC P (Exit.then K Q) D w0 n ((m0, v0 s) :: (m1, v1 s) :: (m2, v2 s) :: kl) (l' s) c) : HC P Q D w0 n env l (.loop c) :=
  hc_loop (fun s => (m0, v0 s) :: (m1, v1 s) :: (m2, v2 s) :: kl) l' p μ s0 h0 (Slots.sub_cons e0 (Slots.sub_cons e1 (Slots.sub_cons e2 (keepL_sub hk)))) hl h
theorem hc_loops3 {c : Code} {σ : Type} (ks : List Nat) {kl : Slots} (hk : keepL env ks = some kl) (m0 : Nat) (v0 : σ → Value) (m1 : Nat) (v1 : σ → Value) (m2 : Nat) (v2 : σ → Value) (p : σ → Prop) (μ : σ → Nat) (s0 : σ) (h0 : p s0) (e0 : Slots.get env m0 = some (v0 s0)) (e1 : Slots.get env m1 = some (v1 s0)) (e2 : Slots.get env m2 = some (v2 s0))
    (h : ∀ s, p s → ∀ K : Act → World → Prop, (∀ s' a w, p s' → μ s' < μ s → St D w0 n ((m0, v0 s') :: (m1, v1 s') :: (m2, v2 s') :: kl) l a w → K a w) → HC P (Exit.then K Q) D w0 n ((m0, v0 s) :: (m1, v1 s) :: (m2, v2 s) :: kl) l c) : HC P Q D w0 n env l (.loop c) :=
  hc_loop (fun s => (m0, v0 s) :: (m1, v1 s) :: (m2, v2 s) :: kl) (fun _ => l) p μ s0 h0 (Slots.sub_cons e0 (Slots.sub_cons e1 (Slots.sub_cons e2 (keepL_sub hk)))) (Ent.refl _) h
theorem hc_loopK4 {c : Code} {σ : Type} (ks : List Nat) {kl : Slots} (hk : keepL env ks = some kl) (m0 : Nat) (v0 : σ → Value) (m1 : Nat) (v1 : σ → Value) (m2 : Nat) (v2 : σ → Value) (m3 : Nat) (v3 : σ → Value) (l' : σ → List HProp) (p : σ → Prop) (μ : σ → Nat) (s0 : σ) (h0 : p s0) (e0 : Slots.get env m0 = some (v0 s0)) (e1 : Slots.get env m1 = some (v1 s0)) (e2 : Slots.get env m2 = some (v2 s0)) (e3 : Slots.get env m3 = some (v3 s0)) (hl : Ent l (l' s0))
    (h : ∀ s, p s → ∀ K : Act → World → Prop, (∀ s' a w, p s' → μ s' < μ s → St D w0 n ((m0, v0 s') :: (m1, v1 s') :: (m2, v2 s') :: (m3, v3 s') :: kl) (l' s') a w → K a w) → HC P (Exit.then K Q) D w0 n ((m0, v0 s) :: (m1, v1 s) :: (m2, v2 s) :: (m3, v3 s) :: kl) (l' s) c) : HC P Q D w0 n env l (.loop c) :=
  hc_loop (fun s => (m0, v0 s) :: (m1, v1 s) :: (m2, v2 s) :: (m3, v3 s) :: kl) l' p μ s0 h0 (Slots.sub_cons e0 (Slots.sub_cons e1 (Slots.sub_cons e2 (Slots.sub_cons e3 (keepL_sub hk))))) hl h
theorem hc_loops4 {c : Code} {σ : Type} (ks : List Nat) {kl : Slots} (hk : keepL env ks = some kl) (m0 : Nat) (v0 : σ → Value) (m1 : Nat) (v1 : σ → Value) (m2 : Nat) (v2 : σ → Value) (m3 : Nat) (v3 : σ → Value) (p : σ → Prop) (μ : σ → Nat) (s0 : σ) (h0 : p s0) (e0 : Slots.get env m0 = some (v0 s0)) (e1 : Slots.get env m1 = some (v1 s0)) (e2 : Slots.get env m2 = some (v2 s0)) (e3 : Slots.get env m3 = some (v3 s0))
    (h : ∀ s, p s → ∀ K : Act → World → Prop, (∀ s' a w, p s' → μ s' < μ s → St D w0 n ((m0, v0 s') :: (m1, v1 s') :: (m2, v2 s') :: (m3, v3 s') :: kl) l a w → K a w) → HC P (Exit.then K Q) D w0 n ((m0, v0 s) :: (m1, v1 s) :: (m2, v2 s) :: (m3, v3 s) :: kl) l c) : HC P Q D w0 n env l (.loop c) :=
  hc_loop (fun s => (m0, v0 s) :: (m1, v1 s) :: (m2, v2 s) :: (m3, v3 s) :: kl) (fun _ => l) p μ s0 h0 (Slots.sub_cons e0 (Slots.sub_cons e1 (Slots.sub_cons e2 (Slots.sub_cons e3 (keepL_sub hk))))) (Ent.refl _) h
theorem hc_loopK5 {c : Code} {σ : Type} (ks : List Nat) {kl : Slots} (hk : keepL env ks = some kl) (m0 : Nat) (v0 : σ → Value) (m1 : Nat) (v1 : σ → Value) (m2 : Nat) (v2 : σ → Value) (m3 : Nat) (v3 : σ → Value) (m4 : Nat) (v4 : σ → Value) (l' : σ → List HProp) (p : σ → Prop) (μ : σ → Nat) (s0 : σ) (h0 : p s0) (e0 : Slots.get env m0 = some (v0 s0)) (e1 : Slots.get env m1 = some (v1 s0)) (e2 : Slots.get env m2 = some (v2 s0)) (e3 : Slots.get env m3 = some (v3 s0)) (e4 : Slots.get env m4 = some (v4 s0)) (hl : Ent l (l' s0))
    (h : ∀ s, p s → ∀ K : Act → World → Prop, (∀ s' a w, p s' → μ s' < μ s → St D w0 n ((m0, v0 s') :: (m1, v1 s') :: (m2, v2 s') :: (m3, v3 s') :: (m4, v4 s') :: kl) (l' s') a w → K a w) → HC P (Exit.then K Q) D w0 n ((m0, v0 s) :: (m1, v1 s) :: (m2, v2 s) :: (m3, v3 s) :: (m4, v4 s) :: kl) (l' s) c) : HC P Q D w0 n env l (.loop c) :=
  hc_loop (fun s => (m0, v0 s) :: (m1, v1 s) :: (m2, v2 s) :: (m3, v3 s) :: (m4, v4 s) :: kl) l' p μ s0 h0 (Slots.sub_cons e0 (Slots.sub_cons e1 (Slots.sub_cons e2 (Slots.sub_cons e3 (Slots.sub_cons e4 (keepL_sub hk)))))) hl h
theorem hc_loops5 {c : Code} {σ : Type} (ks : List Nat) {kl : Slots} (hk : keepL env ks = some kl) (m0 : Nat) (v0 : σ → Value) (m1 : Nat) (v1 : σ → Value) (m2 : Nat) (v2 : σ → Value) (m3 : Nat) (v3 : σ → Value) (m4 : Nat) (v4 : σ → Value) (p : σ → Prop) (μ : σ → Nat) (s0 : σ) (h0 : p s0) (e0 : Slots.get env m0 = some (v0 s0)) (e1 : Slots.get env m1 = some (v1 s0)) (e2 : Slots.get env m2 = some (v2 s0)) (e3 : Slots.get env m3 = some (v3 s0)) (e4 : Slots.get env m4 = some (v4 s0))
    (h : ∀ s, p s → ∀ K : Act → World → Prop, (∀ s' a w, p s' → μ s' < μ s → St D w0 n ((m0, v0 s') :: (m1, v1 s') :: (m2, v2 s') :: (m3, v3 s') :: (m4, v4 s') :: kl) l a w → K a w) → HC P (Exit.then K Q) D w0 n ((m0, v0 s) :: (m1, v1 s) :: (m2, v2 s) :: (m3, v3 s) :: (m4, v4 s) :: kl) l c) : HC P Q D w0 n env l (.loop c) :=
  hc_loop (fun s => (m0, v0 s) :: (m1, v1 s) :: (m2, v2 s) :: (m3, v3 s) :: (m4, v4 s) :: kl) (fun _ => l) p μ s0 h0 (Slots.sub_cons e0 (Slots.sub_cons e1 (Slots.sub_cons e2 (Slots.sub_cons e3 (Slots.sub_cons e4 (keepL_sub hk)))))) (Ent.refl _) h
theorem hc_loopK6 {c : Code} {σ : Type} (ks : List Nat) {kl : Slots} (hk : keepL env ks = some kl) (m0 : Nat) (v0 : σ → Value) (m1 : Nat) (v1 : σ → Value) (m2 : Nat) (v2 : σ → Value) (m3 : Nat) (v3 : σ → Value) (m4 : Nat) (v4 : σ → Value) (m5 : Nat) (v5 : σ → Value) (l' : σ → List HProp) (p : σ → Prop) (μ : σ → Nat) (s0 : σ) (h0 : p s0) (e0 : Slots.get env m0 = some (v0 s0)) (e1 : Slots.get env m1 = some (v1 s0)) (e2 : Slots.get env m2 = some (v2 s0)) (e3 : Slots.get env m3 = some (v3 s0)) (e4 : Slots.get env m4 = some (v4 s0)) (e5 : Slots.get env m5 = some (v5 s0)) (hl : Ent l (l' s0))
    (h : ∀ s, p s → ∀ K : Act → World → Prop, (∀ s' a w, p s' → μ s' < μ s → St D w0 n ((m0, v0 s') :: (m1, v1 s') :: (m2, v2 s') :: (m3, v3 s') :: (m4, v4 s') :: (m5, v5 s') :: kl) (l' s') a w → K a w) → HC P (Exit.then K Q) D w0 n ((m0, v0 s) :: (m1, v1 s) :: (m2, v2 s) :: (m3, v3 s) :: (m4, v4 s) :: (m5, v5 s) :: kl) (l' s) c) : HC P Q D w0 n env l (.loop c) :=
  hc_loop (fun s => (m0, v0 s) :: (m1, v1 s) :: (m2, v2 s) :: (m3, v3 s) :: (m4, v4 s) :: (m5, v5 s) :: kl) l' p μ s0 h0 (Slots.sub_cons e0 (Slots.sub_cons e1 (Slots.sub_cons e2 (Slots.sub_cons e3 (Slots.sub_cons e4 (Slots.sub_cons e5 (keepL_sub hk))))))) hl h
theorem hc_loops6 {c : Code} {σ : Type} (ks : List Nat) {kl : Slots} (hk : keepL env ks = some kl) (m0 : Nat) (v0 : σ → Value) (m1 : Nat) (v1 : σ → Value) (m2 : Nat) (v2 : σ → Value) (m3 : Nat) (v3 : σ → Value) (m4 : Nat) (v4 : σ → Value) (m5 : Nat) (v5 : σ → Value) (p : σ → Prop) (μ : σ → Nat) (s0 : σ) (h0 : p s0) (e0 : Slots.get env m0 = some (v0 s0)) (e1 : Slots.get env m1 = some (v1 s0)) (e2 : Slots.get env m2 = some (v2 s0)) (e3 : Slots.get env m3 = some (v3 s0)) (e4 : Slots.get env m4 = some (v4 s0)) (e5 : Slots.get env m5 = some (v5 s0))
    (h : ∀ s, p s → ∀ K : Act → World → Prop, (∀ s' a w, p s' → μ s' < μ s → St D w0 n ((m0, v0 s') :: (m1, v1 s') :: (m2, v2 s') :: (m3, v3 s') :: (m4, v4 s') :: (m5, v5 s') :: kl) l a w → K a w) → HC P (Exit.then K Q) D w0 n ((m0, v0 s) :: (m1, v1 s) :: (m2, v2 s) :: (m3, v3 s) :: (m4, v4 s) :: (m5, v5 s) :: kl) l c) : HC P Q D w0 n env l (.loop c) :=
  hc_loop (fun s => (m0, v0 s) :: (m1, v1 s) :: (m2, v2 s) :: (m3, v3 s) :: (m4, v4 s) :: (m5, v5 s) :: kl) (fun _ => l) p μ s0 h0 (Slots.sub_cons e0 (Slots.sub_cons e1 (Slots.sub_cons e2 (Slots.sub_cons e3 (Slots.sub_cons e4 (Slots.sub_cons e5 (keepL_sub hk))))))) (Ent.refl _) h
theorem hx_next {K : Act → World → Prop} {σ : Type} {env' : σ → Slots} {l' : σ → List HProp} {p : σ → Prop} {μ : σ → Nat} {m0 : Nat} (hK : ∀ s' a w, p s' → μ s' < m0 → St D w0 n (env' s') (l' s') a w → K a w) (s' : σ) (hp : p s') (hm : μ s' < m0) (he : Slots.sub env (env' s')) (hl : Ent l (l' s')) : HX (Exit.then K Q) .normal D w0 n env l :=
  hx_then_k fun a w S => hK s' a w hp hm ⟨S.env.sub he, S.own.ent hl⟩
theorem hx_cut {K : Act → World → Prop} {σ : Type} {env' : σ → Slots} {l' : σ → List HProp} (hK : ∀ s a w, St D w0 n (env' s) (l' s) a w → K a w) (s : σ) (he : Slots.sub env (env' s)) (hl : Ent l (l' s)) : HX (Exit.then K Q) .normal D w0 n env l :=
  hx_then_k fun a w S => hK s a w ⟨S.env.sub he, S.own.ent hl⟩
theorem hc_cutK0 {x : Code} {σ : Type} (ks : List Nat) {kl : Slots} (hk : keepL env ks = some kl)  (l' : σ → List HProp)
    (h : ∀ K : Act → World → Prop, (∀ (s : σ) a w, St D w0 n (kl) (l' s) a w → K a w) → HC P (Exit.then K Q) D w0 n env l x)
    (k : ∀ s : σ, HX Q .normal D w0 n (kl) (l' s)) : HC P Q D w0 n env l x := hc_cutn (fun s => kl) l' h k
theorem hc_cuts0 {x : Code} {σ : Type} (ks : List Nat) {kl : Slots} (hk : keepL env ks = some kl) 
    (h : ∀ K : Act → World → Prop, (∀ (s : σ) a w, St D w0 n (kl) l a w → K a w) → HC P (Exit.then K Q) D w0 n env l x)
    (k : ∀ s : σ, HX Q .normal D w0 n (kl) l) : HC P Q D w0 n env l x := hc_cutn (fun s => kl) (fun _ => l) h k
theorem hc_cutK1 {x : Code} {σ : Type} (ks : List Nat) {kl : Slots} (hk : keepL env ks = some kl) (m0 : Nat) (v0 : σ → Value) (l' : σ → List HProp)
    (h : ∀ K : Act → World → Prop, (∀ (s : σ) a w, St D w0 n ((m0, v0 s) :: kl) (l' s) a w → K a w) → HC P (Exit.then K Q) D w0 n env l x)
    (k : ∀ s : σ, HX Q .normal D w0 n ((m0, v0 s) :: kl) (l' s)) : HC P Q D w0 n env l x := hc_cutn (fun s => (m0, v0 s) :: kl) l' h k
theorem hc_cuts1 {x : Code} {σ : Type} (ks : List Nat) {kl : Slots} (hk : keepL env ks = some kl) (m0 : Nat) (v0 : σ → Value)
    (h : ∀ K : Act → World → Prop, (∀ (s : σ) a w, St D w0 n ((m0, v0 s) :: kl) l a w → K a w) → HC P (Exit.then K Q) D w0 n env l x)
    (k : ∀ s : σ, HX Q .normal D w0 n ((m0, v0 s) :: kl) l) : HC P Q D w0 n env l x := hc_cutn (fun s => (m0, v0 s) :: kl) (fun _ => l) h k
theorem hc_cutK2 {x : Code} {σ : Type} (ks : List Nat) {kl : Slots} (hk : keepL env ks = some kl) (m0 : Nat) (v0 : σ → Value) (m1 : Nat) (v1 : σ → Value) (l' : σ → List HProp)
    (h : ∀ K : Act → World → Prop, (∀ (s : σ) a w, St D w0 n ((m0, v0 s) :: (m1, v1 s) :: kl) (l' s) a w → K a w) → HC P (Exit.then K Q) D w0 n env l x)
    (k : ∀ s : σ, HX Q .normal D w0 n ((m0, v0 s) :: (m1, v1 s) :: kl) (l' s)) : HC P Q D w0 n env l x := hc_cutn (fun s => (m0, v0 s) :: (m1, v1 s) :: kl) l' h k
theorem hc_cuts2 {x : Code} {σ : Type} (ks : List Nat) {kl : Slots} (hk : keepL env ks = some kl) (m0 : Nat) (v0 : σ → Value) (m1 : Nat) (v1 : σ → Value)
    (h : ∀ K : Act → World → Prop, (∀ (s : σ) a w, St D w0 n ((m0, v0 s) :: (m1, v1 s) :: kl) l a w → K a w) → HC P (Exit.then K Q) D w0 n env l x)
    (k : ∀ s : σ, HX Q .normal D w0 n ((m0, v0 s) :: (m1, v1 s) :: kl) l) : HC P Q D w0 n env l x := hc_cutn (fun s => (m0, v0 s) :: (m1, v1 s) :: kl) (fun _ => l) h k
theorem hc_cutK3 {x : Code} {σ : Type} (ks : List Nat) {kl : Slots} (hk : keepL env ks = some kl) (m0 : Nat) (v0 : σ → Value) (m1 : Nat) (v1 : σ → Value) (m2 : Nat) (v2 : σ → Value) (l' : σ → List HProp)
    (h : ∀ K : Act → World → Prop, (∀ (s : σ) a w, St D w0 n ((m0, v0 s) :: (m1, v1 s) :: (m2, v2 s) :: kl) (l' s) a w → K a w) → HC P (Exit.then K Q) D w0 n env l x)
    (k : ∀ s : σ, HX Q .normal D w0 n ((m0, v0 s) :: (m1, v1 s) :: (m2, v2 s) :: kl) (l' s)) : HC P Q D w0 n env l x := hc_cutn (fun s => (m0, v0 s) :: (m1, v1 s) :: (m2, v2 s) :: kl) l' h k
theorem hc_cuts3 {x : Code} {σ : Type} (ks : List Nat) {kl : Slots} (hk : keepL env ks = some kl) (m0 : Nat) (v0 : σ → Value) (m1 : Nat) (v1 : σ → Value) (m2 : Nat) (v2 : σ → Value)
    (h : ∀ K : Act → World → Prop, (∀ (s : σ) a w, St D w0 n ((m0, v0 s) :: (m1, v1 s) :: (m2, v2 s) :: kl) l a w → K a w) → HC P (Exit.then K Q) D w0 n env l x)
    (k : ∀ s : σ, HX Q .normal D w0 n ((m0, v0 s) :: (m1, v1 s) :: (m2, v2 s) :: kl) l) : HC P Q D w0 n env l x := hc_cutn (fun s => (m0, v0 s) :: (m1, v1 s) :: (m2, v2 s) :: kl) (fun _ => l) h k
theorem hc_cutK4 {x : Code} {σ : Type} (ks : List Nat) {kl : Slots} (hk : keepL env ks = some kl) (m0 : Nat) (v0 : σ → Value) (m1 : Nat) (v1 : σ → Value) (m2 : Nat) (v2 : σ → Value) (m3 : Nat) (v3 : σ → Value) (l' : σ → List HProp)
    (h : ∀ K : Act → World → Prop, (∀ (s : σ) a w, St D w0 n ((m0, v0 s) :: (m1, v1 s) :: (m2, v2 s) :: (m3, v3 s) :: kl) (l' s) a w → K a w) → HC P (Exit.then K Q) D w0 n env l x)
    (k : ∀ s : σ, HX Q .normal D w0 n ((m0, v0 s) :: (m1, v1 s) :: (m2, v2 s) :: (m3, v3 s) :: kl) (l' s)) : HC P Q D w0 n env l x := hc_cutn (fun s => (m0, v0 s) :: (m1, v1 s) :: (m2, v2 s) :: (m3, v3 s) :: kl) l' h k
theorem hc_cuts4 {x : Code} {σ : Type} (ks : List Nat) {kl : Slots} (hk : keepL env ks = some kl) (m0 : Nat) (v0 : σ → Value) (m1 : Nat) (v1 : σ → Value) (m2 : Nat) (v2 : σ → Value) (m3 : Nat) (v3 : σ → Value)
    (h : ∀ K : Act → World → Prop, (∀ (s : σ) a w, St D w0 n ((m0, v0 s) :: (m1, v1 s) :: (m2, v2 s) :: (m3, v3 s) :: kl) l a w → K a w) → HC P (Exit.then K Q) D w0 n env l x)
    (k : ∀ s : σ, HX Q .normal D w0 n ((m0, v0 s) :: (m1, v1 s) :: (m2, v2 s) :: (m3, v3 s) :: kl) l) : HC P Q D w0 n env l x := hc_cutn (fun s => (m0, v0 s) :: (m1, v1 s) :: (m2, v2 s) :: (m3, v3 s) :: kl) (fun _ => l) h k
theorem hc_cutK5 {x : Code} {σ : Type} (ks : List Nat) {kl : Slots} (hk : keepL env ks = some kl) (m0 : Nat) (v0 : σ → Value) (m1 : Nat) (v1 : σ → Value) (m2 : Nat) (v2 : σ → Value) (m3 : Nat) (v3 : σ → Value) (m4 : Nat) (v4 : σ → Value) (l' : σ → List HProp)
    (h : ∀ K : Act → World → Prop, (∀ (s : σ) a w, St D w0 n ((m0, v0 s) :: (m1, v1 s) :: (m2, v2 s) :: (m3, v3 s) :: (m4, v4 s) :: kl) (l' s) a w → K a w) → HC P (Exit.then K Q) D w0 n env l x)
    (k : ∀ s : σ, HX Q .normal D w0 n ((m0, v0 s) :: (m1, v1 s) :: (m2, v2 s) :: (m3, v3 s) :: (m4, v4 s) :: kl) (l' s)) : HC P Q D w0 n env l x := hc_cutn (fun s => (m0, v0 s) :: (m1, v1 s) :: (m2, v2 s) :: (m3, v3 s) :: (m4, v4 s) :: kl) l' h k
theorem hc_cuts5 {x : Code} {σ : Type} (ks : List Nat) {kl : Slots} (hk : keepL env ks = some kl) (m0 : Nat) (v0 : σ → Value) (m1 : Nat) (v1 : σ → Value) (m2 : Nat) (v2 : σ → Value) (m3 : Nat) (v3 : σ → Value) (m4 : Nat) (v4 : σ → Value)
    (h : ∀ K : Act → World → Prop, (∀ (s : σ) a w, St D w0 n ((m0, v0 s) :: (m1, v1 s) :: (m2, v2 s) :: (m3, v3 s) :: (m4, v4 s) :: kl) l a w → K a w) → HC P (Exit.then K Q) D w0 n env l x)
    (k : ∀ s : σ, HX Q .normal D w0 n ((m0, v0 s) :: (m1, v1 s) :: (m2, v2 s) :: (m3, v3 s) :: (m4, v4 s) :: kl) l) : HC P Q D w0 n env l x := hc_cutn (fun s => (m0, v0 s) :: (m1, v1 s) :: (m2, v2 s) :: (m3, v3 s) :: (m4, v4 s) :: kl) (fun _ => l) h k
theorem hc_cutK6 {x : Code} {σ : Type} (ks : List Nat) {kl : Slots} (hk : keepL env ks = some kl) (m0 : Nat) (v0 : σ → Value) (m1 : Nat) (v1 : σ → Value) (m2 : Nat) (v2 : σ → Value) (m3 : Nat) (v3 : σ → Value) (m4 : Nat) (v4 : σ → Value) (m5 : Nat) (v5 : σ → Value) (l' : σ → List HProp)
    (h : ∀ K : Act → World → Prop, (∀ (s : σ) a w, St D w0 n ((m0, v0 s) :: (m1, v1 s) :: (m2, v2 s) :: (m3, v3 s) :: (m4, v4 s) :: (m5, v5 s) :: kl) (l' s) a w → K a w) → HC P (Exit.then K Q) D w0 n env l x)
    (k : ∀ s : σ, HX Q .normal D w0 n ((m0, v0 s) :: (m1, v1 s) :: (m2, v2 s) :: (m3, v3 s) :: (m4, v4 s) :: (m5, v5 s) :: kl) (l' s)) : HC P Q D w0 n env l x := hc_cutn (fun s => (m0, v0 s) :: (m1, v1 s) :: (m2, v2 s) :: (m3, v3 s) :: (m4, v4 s) :: (m5, v5 s) :: kl) l' h k
theorem hc_cuts6 {x : Code} {σ : Type} (ks : List Nat) {kl : Slots} (hk : keepL env ks = some kl) (m0 : Nat) (v0 : σ → Value) (m1 : Nat) (v1 : σ → Value) (m2 : Nat) (v2 : σ → Value) (m3 : Nat) (v3 : σ → Value) (m4 : Nat) (v4 : σ → Value) (m5 : Nat) (v5 : σ → Value)
    (h : ∀ K : Act → World → Prop, (∀ (s : σ) a w, St D w0 n ((m0, v0 s) :: (m1, v1 s) :: (m2, v2 s) :: (m3, v3 s) :: (m4, v4 s) :: (m5, v5 s) :: kl) l a w → K a w) → HC P (Exit.then K Q) D w0 n env l x)
    (k : ∀ s : σ, HX Q .normal D w0 n ((m0, v0 s) :: (m1, v1 s) :: (m2, v2 s) :: (m3, v3 s) :: (m4, v4 s) :: (m5, v5 s) :: kl) l) : HC P Q D w0 n env l x := hc_cutn (fun s => (m0, v0 s) :: (m1, v1 s) :: (m2, v2 s) :: (m3, v3 s) :: (m4, v4 s) :: (m5, v5 s) :: kl) (fun _ => l) h k
end

section
variable {P : Program} {D : Nat → Prop} {w0 : World} {env : Slots} {l : List HProp} {dst : Option Tmp} {ty : TypeId} {pos : String} {after : Array Edge} {g : Option (Nat × Bool)}
/-- A stretch of a list, written out. -/
def segN (cs : List Value) (off s : Nat) : Option (List Value) := if Nat.ble (off + s) cs.length then normL ((cs.drop off).take s) else none
theorem segN_spec {cs vs : List Value} {off s : Nat} (h : segN cs off s = some vs) : vs.length = s ∧ ∀ i v, vs[i]? = some v → cs[off + i]? = some v := by
  unfold segN at h
  split at h
  · rename_i hb
    have hb : off + s ≤ cs.length := by simpa using hb
    have := normL_eq h
    subst this
    refine ⟨by rw [List.length_take, List.length_drop]; omega, fun i v hi => ?_⟩
    rw [List.getElem?_take] at hi
    split at hi
    · rwa [List.getElem?_drop] at hi
    · cases hi
  · cases h
theorem ov_loadGB {t et : TypeId} {s bb : Nat} {z : List Value} [h : TyAgg P t] [hs : TyI P t s bb z] {x : Operand} {b off : Nat} {cs vs : List Value} {r : List HProp} (hx : evalO env x = some (.pointer (some ⟨b, off, none⟩))) [hp : PickB l b et cs r] (hv : segN cs off s = some vs) : OpVal P D w0 env l ⟨dst, .load t x, ty, pos, after, g⟩ (.agg vs.toArray) :=
  ov_loadG hx (segN_spec hv).1 (CellsAre.blk (segN_spec hv).2)
/-- A struct's or an array's field of a struct's value. -/
theorem ov_fieldGN {s f o fz : Nat} {ft : TypeId} [h : TyF P s f o ft fz] [h1 : TyAgg P ft] {x : Operand} {cs vs : List Value} (hx : evalO env x = some (.agg cs.toArray)) (hv : segN cs o fz = some vs) : OpVal P D w0 env l ⟨dst, .field s x f, ty, pos, after, g⟩ (.agg vs.toArray) := by
  have := ov_fieldG (P := P) (D := D) (w0 := w0) (l := l) (dst := dst) (ty := ty) (pos := pos) (after := after) (g := g) (s := s) (f := f) hx
  have e : cs.toArray.extract o (o + fz) = vs.toArray := by
    unfold segN at hv
    split at hv
    · rw [← normL_eq hv]
      apply Array.ext'
      simp [List.extract]
    · cases hv
  rw [e] at this
  exact this
theorem on_boxN {e : TypeId} {x : Operand} {v : Value} {cs : List Value} (hx : evalO env x = some v) (hc : normL v.cells.toList = some cs) : OpNew P D w0 env l ⟨dst, .box e x, ty, pos, after, g⟩ (fun b : Nat => .pointer (some ⟨b, 0, none⟩)) (fun b => blk b e cs :: l) := by
  have := on_box (P := P) (D := D) (w0 := w0) (l := l) (dst := dst) (ty := ty) (pos := pos) (after := after) (g := g) (e := e) hx
  rw [normL_eq hc] at this
  exact this
theorem ov_quoN {x y : Operand} {t t' : TypeId} {i j : Int} (hx : evalO env x = some (.int .i64 i)) (hy : evalO env y = some (.int .i64 j)) (h0 : 0 < j) (hi : 0 ≤ i) (hm : i ≤ 9223372036854775807) : OpVal P D w0 env l ⟨dst, .binOp .quo t x y t', ty, pos, after, g⟩ (.int .i64 (i / j)) :=
  ov_quo hx hy (by omega) (by
    rw [Int.tdiv_eq_ediv_of_nonneg hi]
    refine wrap_i64 ⟨?_, ?_⟩
    · have := Int.ediv_nonneg hi (Int.le_of_lt h0); omega
    · have := Int.ediv_le_self j hi; omega)
/-- Conditional expression, its test not parted. -/
theorem ov_pickI {c x y : Operand} {p : Prop} [Decidable p] {u v : Value} (hc : evalO env c = some (.bool (decide p))) (hx : evalO env x = some u) (hy : evalO env y = some v) : OpVal P D w0 env l ⟨dst, .pick c x y, ty, pos, after, g⟩ (if p then u else v) := .mk fun n a w E _ => by
  by_cases h : p
  · simp [execOp, E.eval hc, E.eval hx, asBool, h]
  · simp [execOp, E.eval hc, E.eval hy, asBool, h]
end

/-! ### Structs and arrays of plain cells, compared -/
inductive CK where
  | i (k : IntKind)
  | b
def cellOk : CK → Value → Option Lit
  | .i k, .int k' n => if k' = k ∧ (Lit.int k n).wf = true then some (.int k n) else none
  | .b, .bool x => some (.bool x)
  | _, _ => none
def cellsOk : List CK → List Value → Option (List Lit)
  | [], [] => some []
  | k :: r, v :: vs => match cellOk k v, cellsOk r vs with
    | some a, some b => some (a :: b)
    | _, _ => none
  | _, _ => none
end Slk
