import Derived.Test.YtpgpfcplchaleaaCfP
set_option linter.unusedVariables false
set_option linter.unusedSimpArgs false
namespace Go.Proofs.Ytpgpfcplchaleaa
open Slk
abbrev limE (i : Nat) : EditC := (7, 0, 0, 2 + (i : Int), 1, 0, 0)
def lims (m : Nat) : List EditC := (List.range m).map limE
theorem lims_succ (m : Nat) : lims (m + 1) = lims m ++ [limE m] := by unfold lims; rw [List.range_succ, List.map_append]; rfl
theorem lims_len (m : Nat) : (lims m).length = m := by unfold lims; rw [List.length_map, List.length_range]
theorem lims_ok {m : Nat} (h : m ≤ 1000) : ∀ x ∈ lims m, Flat.ok x := fun x hx => by
  obtain ⟨i, hi, rfl⟩ := List.mem_map.1 hx
  have hi := List.mem_range.1 hi
  exact editOk1 _ ⟨by show -1000000000 ≤ (7 : Int); decide, by show (7 : Int) ≤ _; decide⟩ ⟨by show -1000000000 ≤ (0 : Int); decide, by show (0 : Int) ≤ _; decide⟩ (inI _ ⟨by show -1000000000 ≤ (0 : Int); decide, by show (0 : Int) ≤ _; decide⟩) ⟨by show -1000000000 ≤ 2 + (i : Int); omega, by show 2 + (i : Int) ≤ 1000000000; omega⟩
def limV (k m : Nat) : List VlanC := (1, UInt8.ofNat (2 ^ k - 1), 0) :: (List.range m).map fun i : Nat => ((2 + (i : Int), 1, 0) : VlanC)
def limC (k m : Nat) : ConfC := (32768, 20, 15, List.replicate k (true, 20000, 1), limV k m, [])
theorem lims_fold (k m : Nat) : foldC (firstC k) (lims m) = (limC k m, 0) := by
  induction m with
  | zero => rfl
  | succ m ih =>
    have hs : setL ltV (2 + (m : Int), 1, 0) (limV k m) = limV k (m + 1) := by
      have hall : ∀ x ∈ limV k m, x.1 < 2 + (m : Int) := fun x hx => by
        rcases List.mem_cons.1 hx with rfl | hx
        · show (1 : Int) < _; omega
        · obtain ⟨i, hi, rfl⟩ := List.mem_map.1 hx
          have := List.mem_range.1 hi
          show 2 + (i : Int) < _; omega
      unfold setL
      rw [filter_all (p := fun y => ltV y (2 + (m : Int), 1, 0)) (fun x hx => decide_eq_true (hall x hx)), filter_none (p := fun y => ltV (2 + (m : Int), 1, 0) y) (fun x hx => decide_eq_false (by have := hall x hx; show ¬ (2 + (m : Int)) < x.1; omega)), List.append_nil]
      unfold limV
      rw [List.range_succ, List.map_append]; rfl
    rw [lims_succ, foldC_append, ih, if_pos rfl, fold_cons (one_vset _ _ rfl)]
    show (((32768, 20, 15, List.replicate k (true, 20000, 1), setL ltV (2 + (m : Int), 1, 0) (limV k m), []) : ConfC), (0 : Int)) = _
    rw [hs]; rfl
theorem limV_len (k m : Nat) : (limV k m).length = 1 + m := by unfold limV; simp; omega
theorem limC_good' : ∀ k : Fin 9, ∀ m : Fin 16, 1 ≤ k.val → goodP (limC k.val m.val) := by decide +kernel
def lA : List EditC := [(8, 0, 0, 1, 0, 0, 0)]
def lB : List EditC := [(8, 0, 0, 2, 0, 0, 0)]
def lC (k : Int) : List EditC := [(5, k, 5, 0, 0, 0, 0)]
def lD : List EditC := [(5, 0, 0, 0, 0, 0, 0)]
theorem lA_ok : ∀ x ∈ lA, Flat.ok x := fun x hx => by obtain rfl := List.mem_singleton.1 hx; exact editOk1 _ ⟨by decide, by decide⟩ ⟨by decide, by decide⟩ (inI _ ⟨by decide, by decide⟩) ⟨by decide, by decide⟩
theorem lB_ok : ∀ x ∈ lB, Flat.ok x := fun x hx => by obtain rfl := List.mem_singleton.1 hx; exact editOk1 _ ⟨by decide, by decide⟩ ⟨by decide, by decide⟩ (inI _ ⟨by decide, by decide⟩) ⟨by decide, by decide⟩
theorem lD_ok : ∀ x ∈ lD, Flat.ok x := fun x hx => by obtain rfl := List.mem_singleton.1 hx; exact editOk1 _ ⟨by decide, by decide⟩ ⟨by decide, by decide⟩ (inI _ ⟨by decide, by decide⟩) ⟨by decide, by decide⟩
theorem lC_ok {k : Int} (h : 0 ≤ k ∧ k ≤ 1000) : ∀ x ∈ lC k, Flat.ok x := fun x hx => by
  obtain rfl := List.mem_singleton.1 hx
  exact editOk1 _ ⟨by show -1000000000 ≤ (5 : Int); decide, by show (5 : Int) ≤ _; decide⟩ ⟨by show -1000000000 ≤ k; omega, by show k ≤ 1000000000; omega⟩ (inI _ ⟨by show -1000000000 ≤ (5 : Int); decide, by show (5 : Int) ≤ _; decide⟩) ⟨by show -1000000000 ≤ (0 : Int); decide, by show (0 : Int) ≤ _; decide⟩
theorem lA_f : ∀ k : Fin 9, 1 ≤ k.val → (foldC (firstC k.val) lA).2 = 0 ∧ ¬ goodP (foldC (firstC k.val) lA).1 := by decide +kernel
theorem lB_f : ∀ k : Fin 9, 1 ≤ k.val → (foldC (firstC k.val) lB).2 = 13 := by decide +kernel
theorem lC_f : ∀ k : Fin 9, 1 ≤ k.val → (foldC (firstC k.val) (lC k.val)).2 = 1 := by decide +kernel
theorem lD_f : ∀ k : Fin 9, 1 ≤ k.val → (foldC (firstC k.val) lD).2 = 0 ∧ ¬ goodP (foldC (firstC k.val) lD).1 := by decide +kernel
/-- What many VLANs come to. -/
theorem lims_edit {k m : Nat} (h1 : 1 ≤ k) (h2 : k ≤ 8) {r : ConfC × Int} (h : EditR (firstC k) (lims m) r) : r.2 = (if 32 < m then 3 else if 15 < m then 14 else 0) ∧ (r.2 = 0 → r.1.2.2.2.2.1.length = 1 + m) := by
  have hg := firstC_good k h1 h2
  by_cases a : 32 < m
  · rw [if_pos a]
    have : r = (zeroC, 3) := h.det (.inr (.inl ⟨hg, by rw [lims_len]; exact a, rfl⟩))
    rw [this]; exact ⟨rfl, fun h => by cases h⟩
  · rw [if_neg a]
    by_cases b : 15 < m
    · rw [if_pos b]
      have : r = (zeroC, 14) := h.no hg (by rw [lims_len]; omega) (lims_fold k m) (fun hh => by
        have := hh.2.1.2.1
        have hl := limV_len k m
        have : (limV k m).length ≤ 16 := this
        omega)
      rw [this]; exact ⟨rfl, fun h => by cases h⟩
    · rw [if_neg b]
      have : r = (limC k m, 0) := h.ok hg (by rw [lims_len]; omega) (lims_fold k m) (limC_good' ⟨k, by omega⟩ ⟨m, by omega⟩ h1)
      rw [this]; exact ⟨rfl, fun _ => limV_len k m⟩
end Go.Proofs.Ytpgpfcplchaleaa
