import Derived.Test.YtpgpfcplchaleaaCodF
set_option linter.unusedVariables false
set_option linter.unusedSimpArgs false
namespace Go.Proofs.Ytpgpfcplchaleaa
open Slk
/-! ### What is read does not hang on where it lies -/
def same (s t : RS) : Prop := s.rem = t.rem ∧ s.bad = t.bad
theorem same_get {s t : RS} (h : same s t) (k : Nat) : getN s k = getN t k ∧ same (getS s k) (getS t k) := by
  unfold getN getS same
  rw [h.1]
  by_cases hk : t.rem.length < k
  · simp [if_pos hk]
  · simp [if_neg hk, h.2]
theorem same_rdE {s t : RS} (h : same s t) : (rdE s).1 = (rdE t).1 ∧ same (rdE s).2 (rdE t).2 := by
  have a1 := same_get h 1
  have a2 := same_get a1.2 1
  have a3 := same_get a2.2 4
  have a4 := same_get a3.2 2
  have a5 := same_get a4.2 1
  have a6 := same_get a5.2 1
  have a7 := same_get a6.2 6
  refine ⟨?_, a7.2⟩
  simp only [rdE, a1.1, a2.1, a3.1, a4.1, a5.1, a6.1, a7.1]
theorem same_rdEs {s t : RS} (h : same s t) (i : Nat) : (rdEs i s).1 = (rdEs i t).1 ∧ same (rdEs i s).2 (rdEs i t).2 := by
  induction i with
  | zero => exact ⟨rfl, h⟩
  | succ i ih =>
    have := same_rdE ih.2
    exact ⟨by simp only [rdEs, ih.1, this.1], this.2⟩
theorem same_all {s t : RS} (h : same s t) : (rdAll s).1 = (rdAll t).1 ∧ same (rdAll s).2 (rdAll t).2 := by
  have a := same_get h 1
  have b := same_rdEs a.2 (getN t 1)
  have e : rdAll s = rdEs (getN t 1) (getS s 1) := by show rdEs (getN s 1) (getS s 1) = _; rw [a.1]
  rw [e]
  exact b
end Go.Proofs.Ytpgpfcplchaleaa
