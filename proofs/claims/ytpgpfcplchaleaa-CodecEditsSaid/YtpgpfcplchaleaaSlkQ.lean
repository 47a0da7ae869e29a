import Derived.Test.YtpgpfcplchaleaaSlkP
set_option linter.unusedVariables false
set_option linter.unusedSimpArgs false
namespace Slk
open Go

/-! ### What one owns and never writes again is old from now on -/
structure Back (D' : Nat → Prop) (w1 : World) (D : Nat → Prop) (w0 : World) (F : List HProp) : Prop where
  own : ∀ w' post, Own D' w1 w' post → Own D w0 w' (post ++ F)
  old : ∀ A, Old D w0 A → Old D' w1 A
theorem Ent.append_l {a b : List HProp} : Ent (a ++ b) a := fun x hx => by
  obtain ⟨h1, h2, p, b, c, d, e⟩ := stars_append.1 hx
  exact stars_mono d p
theorem Back.drop {D' D : Nat → Prop} {w1 w0 w' : World} {F post : List HProp} (h : Back D' w1 D w0 F) (H : Own D' w1 w' post) : Own D w0 w' post :=
  (h.own _ _ H).ent Ent.append_l
theorem Own.freeze {D : Nat → Prop} {w0 w : World} {A : HProp} {l r : List HProp} [hp : Pick l A r] (H : Own D w0 w l) : ∃ D', Own D' w w r ∧ Back D' w D w0 [A] ∧ ∀ B : HProp, (∀ h h1, A h1 → Hsub h1 h → (∀ X, Old D w0 X → ∃ h2, X h2 ∧ Hsub h2 h) → B h) → Old D' w B := by
  have H1 := H.ent (Ent.perm (hp.out.trans (List.perm_append_comm (l₁ := [A]) (l₂ := r))))
  obtain ⟨D', a, b, c, d⟩ := Own.split H1
  refine ⟨D', a, ⟨d, b⟩, fun B hB => c B fun h hs ho => ?_⟩
  obtain ⟨h1, h2, p, _, _, s1, _⟩ := hs
  exact hB h h1 p s1 ho
section
variable {P : Program} {Q : Post} {D : Nat → Prop} {w0 : World} {n : Nat} {env : Slots} {l r : List HProp} {ops : Array Oper}
theorem HL.freeze (A : HProp) [hp : Pick l A r] {rr : List Oper} (k : ∀ D' w1, Back D' w1 D w0 [A] → (∀ B : HProp, (∀ h h1, A h1 → Hsub h1 h → (∀ X, Old D w0 X → ∃ h2, X h2 ∧ Hsub h2 h) → B h) → Old D' w1 B) → HL P ops Q D' w1 n env r rr) : HL P ops Q D w0 n env l rr := .mk fun a w S => by
  obtain ⟨D', H, hb, ho⟩ := S.own.freeze (A := A)
  exact (k D' w hb ho).run a w ⟨S.env, H⟩
theorem HC.freeze (A : HProp) [hp : Pick l A r] {c : Code} (k : ∀ D' w1, Back D' w1 D w0 [A] → (∀ B : HProp, (∀ h h1, A h1 → Hsub h1 h → (∀ X, Old D w0 X → ∃ h2, X h2 ∧ Hsub h2 h) → B h) → Old D' w1 B) → HC P Q D' w1 n env r c) : HC P Q D w0 n env l c := .mk fun a w S => by
  obtain ⟨D', H, hb, ho⟩ := S.own.freeze (A := A)
  exact (k D' w hb ho).run a w ⟨S.env, H⟩
theorem HX.freeze (A : HProp) [hp : Pick l A r] {e : Exit} (k : ∀ D' w1, Back D' w1 D w0 [A] → (∀ B : HProp, (∀ h h1, A h1 → Hsub h1 h → (∀ X, Old D w0 X → ∃ h2, X h2 ∧ Hsub h2 h) → B h) → Old D' w1 B) → HX Q e D' w1 n env r) : HX Q e D w0 n env l := .mk fun a w S => by
  obtain ⟨D', H, hb, ho⟩ := S.own.freeze (A := A)
  exact (k D' w hb ho).run a w ⟨S.env, H⟩
theorem HL.rep {α : Type} [Rep α] (x : α) (cs : List Value) [hp : Pick l (Rep.rep x cs) r] {rr : List Oper} (k : ∀ D' w1, Back D' w1 D w0 [Rep.rep x cs] → Old D' w1 (Rep.rep x cs) → HL P ops Q D' w1 n env r rr) : HL P ops Q D w0 n env l rr :=
  HL.freeze (Rep.rep x cs) fun D' w1 hb ho => k D' w1 hb (ho _ fun h h1 a b _ => Rep.mono b a)
theorem HC.rep {α : Type} [Rep α] (x : α) (cs : List Value) [hp : Pick l (Rep.rep x cs) r] {c : Code} (k : ∀ D' w1, Back D' w1 D w0 [Rep.rep x cs] → Old D' w1 (Rep.rep x cs) → HC P Q D' w1 n env r c) : HC P Q D w0 n env l c :=
  HC.freeze (Rep.rep x cs) fun D' w1 hb ho => k D' w1 hb (ho _ fun h h1 a b _ => Rep.mono b a)
theorem HX.rep {α : Type} [Rep α] (x : α) (cs : List Value) [hp : Pick l (Rep.rep x cs) r] {e : Exit} (k : ∀ D' w1, Back D' w1 D w0 [Rep.rep x cs] → Old D' w1 (Rep.rep x cs) → HX Q e D' w1 n env r) : HX Q e D w0 n env l :=
  HX.freeze (Rep.rep x cs) fun D' w1 hb ho => k D' w1 hb (ho _ fun h h1 a b _ => Rep.mono b a)
theorem hx_nextB {D1 : Nat → Prop} {w1 : World} {F : List HProp} (hb : Back D1 w1 D w0 F) {K : Act → World → Prop} {σ : Type} {env' : σ → Slots} {l' : σ → List HProp} {p : σ → Prop} {μ : σ → Nat} {m0 : Nat} (hK : ∀ s' a w, p s' → μ s' < m0 → St D w0 n (env' s') (l' s') a w → K a w) (s' : σ) (hp : p s') (hm : μ s' < m0) (he : Slots.sub env (env' s')) (hl : Ent (l ++ F) (l' s')) : HX (Exit.then K Q) .normal D1 w1 n env l :=
  hx_then_k fun a w S => hK s' a w hp hm ⟨S.env.sub he, (hb.own _ _ S.own).ent hl⟩
theorem hx_cutB {D1 : Nat → Prop} {w1 : World} {F : List HProp} (hb : Back D1 w1 D w0 F) {K : Act → World → Prop} {σ : Type} {env' : σ → Slots} {l' : σ → List HProp} (hK : ∀ s a w, St D w0 n (env' s) (l' s) a w → K a w) (s : σ) (he : Slots.sub env (env' s)) (hl : Ent (l ++ F) (l' s)) : HX (Exit.then K Q) .normal D1 w1 n env l :=
  hx_then_k fun a w S => hK s a w ⟨S.env.sub he, (hb.own _ _ S.own).ent hl⟩
end
theorem Back.trans {D2 D1 D : Nat → Prop} {w2 w1 w0 : World} {F G : List HProp} (h : Back D2 w2 D1 w1 G) (k : Back D1 w1 D w0 F) : Back D2 w2 D w0 (G ++ F) :=
  ⟨fun w' post H => by rw [← List.append_assoc]; exact k.own _ _ (h.own _ _ H), fun A hA => h.old A (k.old A hA)⟩

/-! ### Readings that one owns -/
section
variable {α : Type} [Rep α] {l r : List HProp} {xs ys : List α} {cs ds : List Value} {A : Option Addr} {t : TypeId} {n cap : Nat}
theorem stars_rep {x : α} [h : Pick l (Rep.rep x cs) r] {y : Heap} (hs : stars l y) : Rep.rep x cs y := by
  obtain ⟨h1, a, b⟩ := stars_pick (A := Rep.rep x cs) hs
  exact Rep.mono b a
theorem Ent.repL_nil : Ent l (repL ([] : List α) [] :: l) := fun h hs => ⟨fun _ => none, h, rfl, hs, fun _ => .inl rfl, (fun b o e => by cases e), Hsub.refl h⟩
theorem Ent.repL_app : Ent (repL xs cs :: repL ys ds :: l) (repL (xs ++ ys) (cs ++ ds) :: l) := by
  rintro h ⟨h1, h2, a, ⟨h3, h4, b, c, d, s1, s2⟩, d2, s3, s4⟩
  refine ⟨Hunion h1 h3, h4, repL_append (repL_mono (Hsub.union_left _ _) a) (repL_mono (Hsub.union_right (d2.subR s1)) b), c, Hdisj.union (d2.subR s2) d, Hsub.union s3 (s1.trans s4), s2.trans s4⟩
theorem Ent.repL_snoc {x : α} : Ent (repL xs cs :: Rep.rep x ds :: l) (repL (xs ++ [x]) (cs ++ ds) :: l) :=
  (Ent.cons (Ent.head (B := repL [x] ds) fun h k => repL_one1 k)).trans Ent.repL_app
theorem Ent.rep_mk (hn : n = xs.length) : Ent (row A t (Rep.sz α) n cap cs :: repL xs cs :: l) (Rep.rep xs [.slice A n cap] :: l) := by
  rintro h ⟨h1, h2, a, ⟨h3, h4, b, c, d, s1, s2⟩, d2, s3, s4⟩
  subst hn
  refine ⟨Hunion h1 h3, h4, ⟨A, cap, rfl, a.2.1, a.2.2.1, cs, repL_mono (Hsub.union_right (d2.subR s1)) b, rdA_mono (Hsub.union_left _ _) (row_rd _ a)⟩, c, Hdisj.union (d2.subR s2) d, Hsub.union s3 (s1.trans s4), s2.trans s4⟩
/-- Elements that lie in their cells alone. -/
theorem Ent.rep_flat (hn : n = xs.length) (hr : ∀ h, repL xs cs h) : Ent (row A t (Rep.sz α) n cap cs :: l) (Rep.rep xs [.slice A n cap] :: l) := by
  rintro h ⟨h1, h2, a, q⟩
  subst hn
  exact ⟨h1, h2, ⟨A, cap, rfl, a.2.1, a.2.2.1, cs, hr _, row_rd _ a⟩, q⟩
theorem Ent.rep_bytes {bs : List UInt8} (hn : n = bs.length) : Ent (row A t 1 n cap (bs.map u8v) :: l) (Rep.rep bs [.slice A n cap] :: l) := Ent.rep_flat (α := UInt8) hn fun h => repL_bytes.2 rfl
theorem Ent.rep_nil : Ent l (Rep.rep ([] : List α) [.slice none 0 0] :: l) := fun h hs => ⟨fun _ => none, h, Slk.rep_nil, hs, fun _ => .inl rfl, (fun b o e => by cases e), Hsub.refl h⟩
end
theorem Ent.pure_cons {p : Prop} {l l' : List HProp} (h : p) (k : Ent l l') : Ent l (pureP p :: l') := fun x hx => stars_pure.2 ⟨h, k _ hx⟩
/-- A part of a slice of one's own is read. -/
theorem SrcIs.rowCut {D : Nat → Prop} {w0 : World} {l r : List HProp} {A : Option Addr} {t : TypeId} {sz n cap : Nat} {cs : List Value} [h : PickR l A t sz n cap cs r] (hA : Slk.isA A) (lo m : Nat) (hm : lo + m ≤ n) (hl : cs.length = n * sz) (hc : n ≤ cap) {news : List Value} (hnew : news = (cs.drop (lo * sz)).take (m * sz)) :
    SrcIs D w0 l (if cap = lo then A else A.map (·.add (lo * sz))) news := by
  subst hnew
  refine SrcIs.ofImp h.out (fun x hx => rdA_cut (row_rd _ hx) cap lo m sz ?_ (by omega)) (fun _ => ?_)
  · rw [hl]; exact Nat.mul_le_mul_right _ hm
  · split
    · exact hA
    · rw [hA]; simp [add_lit', Slk.isA]
end Slk
