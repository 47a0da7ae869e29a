import Derived.Test.YtdjpocnijfhcgaaWir9
import Derived.Test.YtdjpocnijfhcgaaWir7
set_option linter.unusedVariables false
set_option linter.unusedSimpArgs false
namespace Go.Proofs.Ytdjpocnijfhcgaa
open Slk
abbrev LL := List (List UInt8)
/-- What a wire holds behind a Put, and how many were put. -/
def putL (k : Int) (fs : LL) (p : LL × LL) : LL × LL := if k = 0 then (p.1 ++ fs.take (64 - p.1.length), p.2) else if k = 1 then (p.1, p.2 ++ fs.take (64 - p.2.length)) else p
def putN (k : Int) (fs : LL) (p : LL × LL) : Nat := if k = 0 then min fs.length (64 - p.1.length) else if k = 1 then min fs.length (64 - p.2.length) else 0
/-- What is taken, whether something was, and what is left. -/
def takeX (k : Int) (p : LL × LL) : List UInt8 := if k = 0 then p.1.headD [] else if k = 1 then p.2.headD [] else []
def takeB (k : Int) (p : LL × LL) : Bool := if k = 0 then !p.1.isEmpty else if k = 1 then !p.2.isEmpty else false
def takeL (k : Int) (p : LL × LL) : LL × LL := if k = 0 then (p.1.tail, p.2) else if k = 1 then (p.1, p.2.tail) else p
def okW (p : LL × LL) : Prop := p.1.length ≤ 64 ∧ p.2.length ≤ 64 ∧ (∀ x ∈ p.1, x.length ≤ 1000000) ∧ (∀ x ∈ p.2, x.length ≤ 1000000)
theorem okW_put {k : Int} {fs : LL} {p : LL × LL} (h : okW p) (hf : ∀ x ∈ fs, x.length ≤ 1000000) : okW (putL k fs p) := by
  obtain ⟨h1, h2, h3, h4⟩ := h
  unfold putL
  split
  · refine ⟨by simp only [List.length_append, List.length_take]; omega, h2, fun x hx => ?_, h4⟩
    rcases List.mem_append.1 hx with h | h
    · exact h3 x h
    · exact hf x (List.mem_of_mem_take h)
  · split
    · refine ⟨h1, by simp only [List.length_append, List.length_take]; omega, h3, fun x hx => ?_⟩
      rcases List.mem_append.1 hx with h | h
      · exact h4 x h
      · exact hf x (List.mem_of_mem_take h)
    · exact ⟨h1, h2, h3, h4⟩
theorem okW_take {k : Int} {p : LL × LL} (h : okW p) : okW (takeL k p) := by
  obtain ⟨h1, h2, h3, h4⟩ := h
  unfold takeL
  split
  · exact ⟨by simp only [List.length_tail]; omega, h2, fun x hx => h3 x (List.mem_of_mem_tail hx), h4⟩
  · split
    · exact ⟨h1, by simp only [List.length_tail]; omega, h3, fun x hx => h4 x (List.mem_of_mem_tail hx)⟩
    · exact ⟨h1, h2, h3, h4⟩
theorem mem_idx {fs : LL} (hf : ∀ x ∈ fs, x.length ≤ 1000000) : ∀ i (hi : i < fs.length), fs[i].length ≤ 1000000 := fun i hi => hf _ (List.getElem_mem hi)
theorem Put_all (D : Nat → Prop) (w : World) (g : Nat) (k : Int) (p : LL × LL) (v : Value) (fs : LL) (hp : okW p) (hf : ∀ x ∈ fs, x.length ≤ 1000000) (H : Own D w w [wir 0 g p.1 p.2]) (HA : Old D w (Rep.rep fs [v])) :
    Calls Try.prog 19 #[.pointer (some ⟨g, 0, none⟩), .int .i64 k, v] w fun e w' => e = .returned (.int .i64 ((putN k fs p : Nat) : Int)) ∧ Own D w w' [wir 0 g (putL k fs p).1 (putL k fs p).2] := by
  unfold putN putL
  by_cases h0 : k = 0
  · subst h0
    simp only [if_true]
    exact Put_spec D w g 0 (by decide) p.1 p.2 v fs hp.1 (mem_idx hf) H HA
  · by_cases h1 : k = 1
    · subst h1
      simp only [h0, if_false, if_true]
      refine (Put_spec D w g 1 (by decide) p.2 p.1 v fs hp.2.1 (mem_idx hf) (H.ent (Ent.head (wir_turn _ _ _))) HA).mono fun e w' ⟨he, H'⟩ => ⟨he, H'.ent (Ent.head (wir_turn' _ _ _))⟩
    · simp only [h0, h1, if_false]
      exact Own.calln H fun D' _ _ _ => Put_out D' w _ k (by omega) v
theorem RPut_all (D : Nat → Prop) (w : World) (g : Nat) (k : Int) (p : LL × LL) (v : Value) (fs : LL) (hp : okW p) (hf : ∀ x ∈ fs, x.length ≤ 1000000) (H : Own D w w [rwir 0 g p.1 p.2]) (HA : Old D w (Rep.rep fs [v])) :
    Calls Try.prog 26 #[.pointer (some ⟨g, 0, none⟩), .int .i64 k, v] w fun e w' => e = .returned (.int .i64 ((putN k fs p : Nat) : Int)) ∧ Own D w w' [rwir 0 g (putL k fs p).1 (putL k fs p).2] := by
  unfold putN putL
  by_cases h0 : k = 0
  · subst h0
    simp only [if_true]
    exact RPut_spec D w g 0 (by decide) p.1 p.2 v fs hp.1 (mem_idx hf) H HA
  · by_cases h1 : k = 1
    · subst h1
      simp only [h0, if_false, if_true]
      refine (RPut_spec D w g 1 (by decide) p.2 p.1 v fs hp.2.1 (mem_idx hf) (H.ent (Ent.head (rwir_turn _ _ _))) HA).mono fun e w' ⟨he, H'⟩ => ⟨he, H'.ent (Ent.head (rwir_turn' _ _ _))⟩
    · simp only [h0, h1, if_false]
      exact Own.calln H fun D' _ _ _ => RPut_out D' w _ k (by omega) v
theorem Ent.rowB_rep {t : TypeId} {x : List UInt8} {c : Value} {l : List HProp} : Ent (rowB t x c :: l) (Rep.rep x [c] :: l) := Ent.head fun _ h => Slk.rowB_rep h
theorem Take_all (D : Nat → Prop) (w : World) (g : Nat) (k : Int) (p : LL × LL) (H : Own D w w [wir 0 g p.1 p.2]) :
    Calls Try.prog 21 #[.pointer (some ⟨g, 0, none⟩), .int .i64 k] w fun e w' => ∃ c, e = .returned (.tuple #[c, .bool (takeB k p)]) ∧ Own D w w' [Rep.rep (takeX k p) [c], wir 0 g (takeL k p).1 (takeL k p).2] := by
  obtain ⟨l0, l1⟩ := p
  unfold takeB takeX takeL
  by_cases h0 : k = 0
  · subst h0
    simp only [if_true]
    cases l0 with
    | nil => exact (Take_nil D w g 0 (by decide) l1 H).mono fun e w' ⟨he, H'⟩ => ⟨_, he, H'.ent Ent.rep_nil⟩
    | cons x r => exact (Take_cons D w g 0 (by decide) x r l1 H).mono fun e w' ⟨c, he, H'⟩ => ⟨c, he, H'.ent Ent.rowB_rep⟩
  · by_cases h1 : k = 1
    · subst h1
      simp only [h0, if_false, if_true]
      cases l1 with
      | nil => exact (Take_nil D w g 1 (by decide) l0 (H.ent (Ent.head (wir_turn _ _ _)))).mono fun e w' ⟨he, H'⟩ => ⟨_, he, H'.ent ((Ent.head (wir_turn' _ _ _)).trans Ent.rep_nil)⟩
      | cons x r => exact (Take_cons D w g 1 (by decide) x r l0 (H.ent (Ent.head (wir_turn _ _ _)))).mono fun e w' ⟨c, he, H'⟩ => ⟨c, he, H'.ent (Ent.rowB_rep.trans (Ent.cons (Ent.head (wir_turn' _ _ _))))⟩
    · simp only [h0, h1, if_false]
      exact (Own.calln H fun D' _ _ _ => Take_out D' w _ k (by omega)).mono fun e w' ⟨he, H'⟩ => ⟨_, he, H'.ent Ent.rep_nil⟩
theorem RTake_all (D : Nat → Prop) (w : World) (g : Nat) (k : Int) (p : LL × LL) (hp : okW p) (H : Own D w w [rwir 0 g p.1 p.2]) :
    Calls Try.prog 27 #[.pointer (some ⟨g, 0, none⟩), .int .i64 k] w fun e w' => ∃ c, e = .returned (.tuple #[c, .bool (takeB k p)]) ∧ Own D w w' [Rep.rep (takeX k p) [c], rwir 0 g (takeL k p).1 (takeL k p).2] := by
  obtain ⟨l0, l1⟩ := p
  unfold takeB takeX takeL
  have hp1 := hp.1
  have hp2 := hp.2.1
  by_cases h0 : k = 0
  · subst h0
    simp only [if_true]
    cases l0 with
    | nil => exact (RTake_nil D w g 0 (by decide) l1 H).mono fun e w' ⟨he, H'⟩ => ⟨_, he, H'.ent Ent.rep_nil⟩
    | cons x r => exact (RTake_cons D w g 0 (by decide) x r l1 (by simp at hp1; omega) H).mono fun e w' ⟨c, he, H'⟩ => ⟨c, he, H'.ent Ent.rowB_rep⟩
  · by_cases h1 : k = 1
    · subst h1
      simp only [h0, if_false, if_true]
      cases l1 with
      | nil => exact (RTake_nil D w g 1 (by decide) l0 (H.ent (Ent.head (rwir_turn _ _ _)))).mono fun e w' ⟨he, H'⟩ => ⟨_, he, H'.ent ((Ent.head (rwir_turn' _ _ _)).trans Ent.rep_nil)⟩
      | cons x r => exact (RTake_cons D w g 1 (by decide) x r l0 (by simp at hp2; omega) (H.ent (Ent.head (rwir_turn _ _ _)))).mono fun e w' ⟨c, he, H'⟩ => ⟨c, he, H'.ent (Ent.rowB_rep.trans (Ent.cons (Ent.head (rwir_turn' _ _ _))))⟩
    · simp only [h0, h1, if_false]
      exact (Own.calln H fun D' _ _ _ => RTake_out D' w _ k (by omega)).mono fun e w' ⟨he, H'⟩ => ⟨_, he, H'.ent Ent.rep_nil⟩
theorem Ent.rowsB_rep {t tb : TypeId} {xs : LL} {cs : List Value} {A : Option Addr} {cap : Nat} {l : List HProp} : Ent (row A t 1 xs.length cap cs :: rowsB tb xs cs :: l) (Rep.rep xs [.slice A xs.length cap] :: l) :=
  (Ent.cons (Ent.head fun _ h => rowsB_repL h)).trans (Ent.rep_mk (α := List UInt8) rfl)
theorem All_0 (D : Nat → Prop) (w : World) (g : Nat) (p : LL × LL) (hp : okW p) (H : Own D w w [wir 0 g p.1 p.2]) :
    Calls Try.prog 22 #[.pointer (some ⟨g, 0, none⟩), .int .i64 0] w fun e w' => ∃ c, e = .returned c ∧ Own D w w' [Rep.rep p.1 [c], wir 0 g p.1 p.2] :=
  (All_spec D w g 0 (by decide) p.1 p.2 (by have := hp.1; omega) (mem_idx hp.2.2.1) H).mono fun e w' ⟨q, he, H'⟩ => ⟨_, he, H'.ent Ent.rowsB_rep⟩
theorem All_1 (D : Nat → Prop) (w : World) (g : Nat) (p : LL × LL) (hp : okW p) (H : Own D w w [wir 0 g p.1 p.2]) :
    Calls Try.prog 22 #[.pointer (some ⟨g, 0, none⟩), .int .i64 1] w fun e w' => ∃ c, e = .returned c ∧ Own D w w' [Rep.rep p.2 [c], wir 0 g p.1 p.2] :=
  (All_spec D w g 1 (by decide) p.2 p.1 (by have := hp.2.1; omega) (mem_idx hp.2.2.2) (H.ent (Ent.head (wir_turn _ _ _)))).mono fun e w' ⟨q, he, H'⟩ => ⟨_, he, H'.ent (Ent.rowsB_rep.trans (Ent.cons (Ent.head (wir_turn' _ _ _))))⟩
theorem rowsB_mid {t : TypeId} {xs zs : LL} {y : List UInt8} {cs ds : List Value} {c : Value} {l : List HProp} (h : xs.length = cs.length) : Ent (rowsB t (xs ++ y :: zs) (cs ++ c :: ds) :: l) (rowB t y c :: rowsB t xs cs :: rowsB t zs ds :: l) := by
  rintro x ⟨h1, h2, ⟨e, a⟩, b, d, s1, s2⟩
  rw [List.zipWith_append h] at a
  have hl : zs.length = ds.length := by simp only [List.length_append, List.length_cons] at e; omega
  have k : stars (List.zipWith (rowB t) xs cs ++ (rowB t y c :: List.zipWith (rowB t) zs ds)) h1 := a
  obtain ⟨h3, h4, p, ⟨h5, h6, q, r, d2, s5, s6⟩, d1, s3, s4⟩ := stars_append.1 k
  have hh : stars [rowB t y c, rowsB t xs cs, rowsB t zs ds] h1 := stars_swap ⟨h3, h4, ⟨h, p⟩, ⟨h5, h6, q, ⟨h6, fun _ => none, ⟨hl, r⟩, trivial, fun _ => .inr rfl, Hsub.refl _, (fun b o e => by cases e)⟩, d2, s5, s6⟩, d1, s3, s4⟩
  exact stars_append.2 ⟨h1, h2, hh, b, d, s1, s2⟩
theorem rowsB_mid' {t : TypeId} {xs zs : LL} {y : List UInt8} {cs ds : List Value} {c : Value} {l : List HProp} : Ent (rowB t y c :: rowsB t xs cs :: rowsB t zs ds :: l) (rowsB t (xs ++ y :: zs) (cs ++ c :: ds) :: l) := by
  intro x hx
  obtain ⟨h1, h2, hh, b, d, s1, s2⟩ := stars_append.1 (show stars ([rowB t y c, rowsB t xs cs, rowsB t zs ds] ++ l) x from hx)
  refine ⟨h1, h2, ?_, b, d, s1, s2⟩
  obtain ⟨h3, h4, ⟨e1, p⟩, ⟨h5, h6, q, ⟨h7, h8, ⟨e2, r⟩, _, _, s7, _⟩, d2, s5, s6⟩, d1, s3, s4⟩ := stars_swap hh
  refine ⟨by simp [e1, e2], ?_⟩
  rw [List.zipWith_append e1]
  exact stars_append.2 ⟨h3, h4, p, ⟨h5, h6, q, stars_mono s7 r, d2, s5, s6⟩, d1, s3, s4⟩
end Go.Proofs.Ytdjpocnijfhcgaa
