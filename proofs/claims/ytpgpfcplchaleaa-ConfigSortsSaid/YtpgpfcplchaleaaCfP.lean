import Derived.Test.YtpgpfcplchaleaaCfG
set_option linter.unusedVariables false
set_option linter.unusedSimpArgs false
namespace Go.Proofs.Ytpgpfcplchaleaa
open Slk
theorem oldCut {α : Type} [Rep α] {D : Nat → Prop} {w0 : World} {xs : List α} {A : Option Addr} {n cap : Nat} (k : Old D w0 (Rep.rep xs [.slice A n cap])) (lo hi : Nat) (h1 : lo ≤ hi) (h2 : hi ≤ xs.length) : Old D w0 (Rep.rep ((xs.drop lo).take (hi - lo)) [.slice (if cap = lo then A else A.map (·.add (lo * Rep.sz α))) (hi - lo) (cap - lo)]) := by
  obtain ⟨h, hh, q⟩ := k
  exact ⟨h, hh, rep_cut q lo hi h1 h2⟩
theorem EditR.zero {c : ConfC} {l : List EditC} {r : ConfC × Int} (h : EditR c l r) (hz : r.2 = 0) : goodP c ∧ l.length ≤ 32 ∧ foldC c l = (r.1, 0) ∧ goodP r.1 := by
  rcases h with ⟨_, rfl⟩ | ⟨_, _, rfl⟩ | ⟨_, _, h3, rfl⟩ | ⟨_, _, _, _, rfl⟩ | ⟨h1, h2, h3, h4, rfl⟩
  · cases hz
  · cases hz
  · exact absurd hz h3
  · cases hz
  · exact ⟨h1, h2, Prod.ext rfl h3, h4⟩
/-- The edits in two calls. -/
theorem editR_two {c : ConfC} {l : List EditC} {k : Nat} {w a b : ConfC × Int} (hl : l.length ≤ 32) (h1 : EditR c l w) (h2 : EditR c (l.take k) a) (hz : a.2 = 0) (h3 : EditR a.1 (l.drop k) b) : (b.2 = 0 ↔ w.2 = 0) ∧ (w.2 = 0 → b.1 = w.1) := by
  obtain ⟨hg, _, hf, hga⟩ := h2.zero hz
  have hap := foldC_append (l.take k) (l.drop k) c
  rw [List.take_append_drop, hf, if_pos rfl] at hap
  have hd : (l.drop k).length ≤ 32 := by rw [List.length_drop]; omega
  have hw : EditR a.1 (l.drop k) w := by
    rcases h1 with ⟨h, _⟩ | ⟨_, h, _⟩ | ⟨x1, x2, x3, x4⟩ | ⟨x1, x2, x3, x4, x5⟩ | ⟨x1, x2, x3, x4, x5⟩
    · exact absurd hg h
    · omega
    · rw [hap] at x3 x4; exact .inr (.inr (.inl ⟨hga, hd, x3, x4⟩))
    · rw [hap] at x3 x4; exact .inr (.inr (.inr (.inl ⟨hga, hd, x3, x4, x5⟩)))
    · rw [hap] at x3 x4 x5; exact .inr (.inr (.inr (.inr ⟨hga, hd, x3, x4, x5⟩)))
  rw [hw.det h3]
  exact ⟨Iff.rfl, fun _ => rfl⟩
theorem fold_cons {c d : ConfC} {e : EditC} {r : List EditC} (h : oneC c e = (d, 0)) : foldC c (e :: r) = foldC d r := by
  rw [foldC, h]; exact if_pos rfl
theorem one_prio (c : ConfC) (e : EditC) (h : e.1 = 1) : oneC c e = ((e.2.2.1, c.2), 0) := by unfold oneC; rw [if_pos h]
theorem one_vset (c : ConfC) (e : EditC) (h : e.1 = 7) : oneC c e = ((c.1, c.2.1, c.2.2.1, c.2.2.2.1, setL ltV (e.2.2.2.1, e.2.2.2.2.1, e.2.2.2.2.2.1) c.2.2.2.2.1, c.2.2.2.2.2), 0) := by
  unfold oneC
  rw [if_neg (by omega), if_neg (by omega), if_neg (by omega), if_neg (by omega), if_pos h]
theorem one_sset (c : ConfC) (e : EditC) (h : e.1 = 9) : oneC c e = ((c.1, c.2.1, c.2.2.1, c.2.2.2.1, c.2.2.2.2.1, setL ltS (e.2.2.2.2.2.2, e.2.2.2.1, e.2.1) c.2.2.2.2.2), 0) := by
  unfold oneC
  rw [if_neg (by omega), if_neg (by omega), if_neg (by omega), if_neg (by omega), if_neg (by omega), if_pos h]
theorem one_vdel (c : ConfC) (e : EditC) (h : e.1 = 8) : oneC c e = if hasL ltV (e.2.2.2.1, 0, 0) c.2.2.2.2.1 = true then ((c.1, c.2.1, c.2.2.1, c.2.2.2.1, delL ltV (e.2.2.2.1, 0, 0) c.2.2.2.2.1, c.2.2.2.2.2), 0) else (c, 13) := by
  unfold oneC
  rw [if_neg (by omega), if_neg (by omega), if_neg (by omega), if_neg (by omega), if_neg (by omega), if_neg (by omega), if_pos h]
theorem one_port (c : ConfC) (e : EditC) (h : 4 ≤ e.1 ∧ e.1 ≤ 6) : oneC c e = portC c e := oneC_port h
def lvd : List EditC := [(7, 0, 0, 4094, 0, 0, 0), (8, 0, 0, 4094, 0, 0, 0)]
theorem lvd_ok : ∀ x ∈ lvd, Flat.ok x := fun x hx => by
  rcases List.mem_cons.1 hx with rfl | hx
  · exact editOk1 _ ⟨by decide, by decide⟩ ⟨by decide, by decide⟩ (inI _ ⟨by decide, by decide⟩) ⟨by decide, by decide⟩
  · rcases List.mem_cons.1 hx with rfl | hx
    · exact editOk1 _ ⟨by decide, by decide⟩ ⟨by decide, by decide⟩ (inI _ ⟨by decide, by decide⟩) ⟨by decide, by decide⟩
    · cases hx
theorem goodP.ids {c : ConfC} (h : goodP c) : ∀ x ∈ c.2.2.2.2.1, 1 ≤ x.1 ∧ x.1 ≤ 4094 := fun x hx => by
  obtain ⟨i, hi, rfl⟩ := List.getElem_of_mem hx
  have := h.2.1.2.2.1 i hi
  exact ⟨this.1, this.2.1⟩
theorem goodP.below {c : ConfC} (h : goodP c) {n : Nat} (hn : n = c.2.2.2.2.1.length - 1) (hl : n < c.2.2.2.2.1.length) (hx : c.2.2.2.2.1[n].1 ≠ 4094) : ∀ x ∈ c.2.2.2.2.1, x.1 < 4094 := fun x hm => by
  have h1 := h.ids _ (List.getElem_mem hl)
  obtain ⟨i, hi, rfl⟩ := List.getElem_of_mem hm
  rcases Nat.lt_or_ge i n with h2 | h2
  · have h3 := (risV_iff.1 h.2.1.2.2.2).get i n hi hl h2
    have h3 := of_decide_eq_true h3
    omega
  · obtain rfl : i = n := by omega
    omega
theorem fold_vd {c : ConfC} (h : ∀ x ∈ c.2.2.2.2.1, x.1 < 4094) : foldC c lvd = (c, 0) := by
  have hlt : ∀ y : VlanC, y.1 < 4094 → ltV y (4094, 0, 0) = true := fun y h => decide_eq_true h
  have hge : ∀ y : VlanC, y.1 < 4094 → ltV (4094, 0, 0) y = false := fun y h => decide_eq_false (by show ¬ (4094 : Int) < y.1; omega)
  have h1 : setL ltV (4094, 0, 0) c.2.2.2.2.1 = c.2.2.2.2.1 ++ [(4094, 0, 0)] := by
    unfold setL
    rw [filter_all (fun x hx => hlt x (h x hx)), filter_none (fun x hx => hge x (h x hx)), List.append_nil]
  have h2 : hasL ltV (4094, 0, 0) (c.2.2.2.2.1 ++ [(4094, 0, 0)]) = true := by
    unfold hasL
    rw [List.any_append]
    rw [show ([((4094 : Int), (0 : UInt8), (0 : UInt8))] : List VlanC).any (fun y => !ltV y (4094, 0, 0) && !ltV (4094, 0, 0) y) = true by decide, Bool.or_true]
  have h3 : delL ltV (4094, 0, 0) (c.2.2.2.2.1 ++ [(4094, 0, 0)]) = c.2.2.2.2.1 := by
    unfold delL
    rw [List.filter_append, filter_all (fun x hx => by rw [hlt x (h x hx)]; rfl), show ([((4094 : Int), (0 : UInt8), (0 : UInt8))] : List VlanC).filter (fun y => ltV y (4094, 0, 0) || ltV (4094, 0, 0) y) = [] by decide, List.append_nil]
  unfold lvd
  rw [fold_cons (one_vset c _ rfl), fold_cons (d := c)]
  · rfl
  · rw [one_vdel _ _ rfl]
    show (if hasL ltV (4094, 0, 0) (setL ltV (4094, 0, 0) c.2.2.2.2.1) = true then _ else _) = _
    rw [h1, if_pos h2]
    show ((c.1, c.2.1, c.2.2.1, c.2.2.2.1, delL ltV (4094, 0, 0) (c.2.2.2.2.1 ++ [(4094, 0, 0)]), c.2.2.2.2.2), (0 : Int)) = (c, 0)
    rw [h3]
end Go.Proofs.Ytpgpfcplchaleaa
