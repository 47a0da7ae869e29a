import Derived.Test.YtpgpfcplchaleaaSlkT
set_option linter.unusedVariables false
set_option linter.unusedSimpArgs false
namespace Slk
open Go
section
variable {P : Program} {D : Nat → Prop} {w0 : World} {env : Slots} {l : List HProp} {dst : Option Tmp} {ty : TypeId} {pos : String} {after : Array Edge} {g : Option (Nat × Bool)}
theorem ov_cap {t e : TypeId} [h : TySlice P t e] {x : Operand} {b : Option Addr} {n cap : Nat} (hx : evalO env x = some (.slice b n cap)) : OpVal P D w0 env l ⟨dst, .call ⟨.builtin .cap, #[x], #[t]⟩, ty, pos, after, g⟩ (.int .i64 cap) := .mk fun n' a w E H => by
  simp [execOp, resolve, invoke, builtin, E.eval hx, Builtin.cap_, run_underlying h.out, goInt]
/-- append(nil, make([]T, m)...) -/
theorem on_appendZ {t e ti : TypeId} {s bb : Nat} {z : List Value} [h : TySlice P t e] [hs : TyI P e s bb z] [hi : TyInt P ti .i64] {x y : Operand} {m : Nat} {j : Int} (hx : evalO env x = some (.slice none 0 0)) (hy : evalO env y = some (.int .i64 j)) (hj : j = m) (hm : 0 < m) (hs0 : 0 < s) (hb0 : 0 < bb) (hb : m * bb ≤ 140737488355328) :
    OpNew P D w0 env l ⟨dst, .call ⟨.builtin .append, #[x, y], #[t, ti]⟩, ty, pos, after, g⟩ (fun p : Option Addr × Nat => .slice p.1 m p.2) (fun p => row p.1 e s m p.2 (zerosL z m) :: l) := .mk fun n' a w E H => by
  subst hj
  have hz := hs.len
  suffices hrun : ∃ p : Option Addr × Nat, ∃ w', (Builtin.append_ #[t, ti] ty #[.slice none 0 0, .int .i64 m]).run P w = .ok (.slice p.1 m p.2) w' ∧ Own D w0 w' (row p.1 e s m p.2 (zerosL z m) :: l) by
    obtain ⟨p, w', hr, hO⟩ := hrun
    refine ⟨p, w', .inl ?_, hO⟩
    simp [execOp, resolve, invoke, builtin, E.eval hx, E.eval hy, hr]
  obtain ⟨i, hi', hi1, hi2, zv, hi3, hi4⟩ := run_info (P := P) (t := e)
  have hzs : zv.cells.size = s := by rw [← Array.length_toList, hi4, hz]
  have hneed : m ≤ 140737488355328 := Nat.le_trans (Nat.le_mul_of_pos_right _ hb0) hb
  have hcapge : m ≤ grownCap w m 0 e := by
    unfold grownCap Question.cut
    exact Nat.le_add_right _ _
  have hcaple : grownCap w m 0 e ≤ 9223372036854775807 := by
    unfold grownCap Question.cut
    have h2 : (2 : Nat) ^ 63 = 9223372036854775808 := by decide
    have := Nat.mod_lt (w.tape w.drawn (.appendCap m 0 e)) (show 0 < 2 ^ 63 - m by rw [h2]; omega)
    simp only
    rw [h2] at this ⊢
    omega
  have hzl : ∀ k, (zerosL z k).length = k * s := fun k => by rw [zerosL_length, hz]
  refine ⟨(some ⟨w.heap.size, 0, none⟩, grownCap w m 0 e), w.drew.alloc (.cells (zerosL z m ++ zerosL z (grownCap w m 0 e - m)).toArray e), ?_, (H.drew.alloc e (zerosL z m ++ zerosL z (grownCap w m 0 e - m))).ent (Ent.head fun x hx => ?_)⟩
  · have hne : ¬ (m = 0) := by omega
    have hms : ¬ (m * s = 0) := by
      have := Nat.mul_pos hm hs0
      omega
    have h63' : ¬ (9223372036854775807 < (m : Int)) := by omega
    have h48' : ¬ (281474976710656 < Builtin.nextslicecap m 0 * i.bytes) := by
      have := growslice_fits (need := m) (old := 0) (bytes := bb) hm (by simpa using hb)
      rw [hi2]; omega
    have h48'' : ¬ ((281474976710656 : Int) < (m : Int) * (i.bytes : Int)) := by
      rw [hi2]
      have : (m : Int) * (bb : Int) = ((m * bb : Nat) : Int) := by simp
      rw [this]; omega
    have hwr : IntKind.i64.wrap (m : Int) = m := wrap_i64 (by omega)
    have hzz : (Builtin.zeroCells zv.cells (grownCap w m 0 e - m)) = (zerosL z (grownCap w m 0 e - m)).toArray := by
      apply Array.ext'; rw [zeroCells_eq, hi4]
    have hz2 : (Builtin.zeroCells zv.cells m) = (zerosL z m).toArray := by
      apply Array.ext'; rw [zeroCells_eq, hi4]
    have hs' : i.size ≠ 0 := by omega
    have hms2 : ¬ (m * i.size = 0) := by rw [hi1]; exact hms
    have hng : ¬ ((m : Int) < 0) := by omega
    simp [Builtin.append_, run_underlying h.out, run_underlying hi.out, asInt, asIntOf, hwr, hng, hms2, Go.sizeOf, typeInfo, zeroValue, hi', hi3, Builtin.lenOf, hne, hms, hs', h63', h48', h48'', Question.forced, run_firstCells_none]
    simp only [grownCap] at hzz
    simp [newRow, grownCap, hzz, hz2]
  · refine ⟨hzl m, hcapge, hcaple, .inr ⟨w.heap.size, [], zerosL z (grownCap w m 0 e - m), rfl, ?_, by simpa using hx⟩⟩
    show (grownCap w m 0 e - m) * s ≤ _
    rw [hzl]; exact Nat.le_refl _
/-- s[:0] keeps its room. -/
theorem Ent.row_zero {A : Option Addr} {t : TypeId} {sz n cap : Nat} {cs : List Value} {r : List HProp} : Ent (row A t sz n cap cs :: r) (row A t sz 0 cap [] :: r) := Ent.head fun h ⟨h1, h2, h3, h4⟩ => by
  refine ⟨by simp, Nat.zero_le _, h3, ?_⟩
  rcases h4 with h4 | ⟨b, pre, rest, rfl, h5, h6⟩
  · exact .inl h4
  · refine .inr ⟨b, pre, cs ++ rest, rfl, ?_, by simpa [List.append_assoc] using h6⟩
    rw [List.length_append, h1, Nat.sub_zero]
    have : cap * sz = n * sz + (cap - n) * sz := by rw [← Nat.add_mul]; congr 1; omega
    omega
theorem SrcIs.rowR {r : List HProp} {A : Option Addr} {t : TypeId} {sz n cap : Nat} {cs : List Value} [h : PickR l A t sz n cap cs r] (hA : cs ≠ [] → Slk.isA A) : SrcIs D w0 l A cs := SrcIs.row (h := ⟨h.out⟩) hA
end
section
variable {σ : Type} {L : σ → List HProp} {F : Fence} {ds : List Deferred} {P : Program} {Q : Post} {D : Nat → Prop} {w0 : World} {n : Nat} {env : Slots} {l : List HProp}
theorem HCi.exs {c : Code} (k : ∀ x, HCi F ds P Q D w0 n env (L x ++ l) c) : HCi F ds P Q D w0 n env (exS L :: l) c := .mk fun a w S => by
  obtain ⟨x, H⟩ := Own.exs S.own
  exact (k x).run a w ⟨S.env, S.ds, H⟩
theorem HXi.exs {e : Exit} (k : ∀ x, HXi ds Q e D w0 n env (L x ++ l)) : HXi ds Q e D w0 n env (exS L :: l) := .mk fun a w S => by
  obtain ⟨x, H⟩ := Own.exs S.own
  exact (k x).run a w ⟨S.env, S.ds, H⟩
end
/-- An element of a list of flat things in old memory. -/
theorem OldS.cells_flat {D : Nat → Prop} {w0 : World} {A : Option Addr} {α : Type} {f : α → List Value} {sz : Nat} (hf : ∀ x, (f x).length = sz) (h0 : 0 < sz) {S : List α} (HS : OldS D w0 A (S.flatMap f)) {k : Nat} (hk : k < S.length) (l : List HProp) : Slk.isA A ∧ CellsAre D w0 l (ab A) (ao A + k * sz) (f S[k]) := by
  have hne : S.flatMap f ≠ [] := fun e => by
    have := congrArg List.length e
    rw [flat_len hf] at this
    have h2 : 0 < S.length * sz := Nat.mul_pos (by omega) h0
    rw [this] at h2; simp at h2
  refine ⟨HS.isA hne, CellsAre.sub ((SrcIs.old (l := l) HS).cells hne) fun i v hv => ?_⟩
  have : i < sz := by
    rcases Nat.lt_or_ge i sz with h | h
    · exact h
    · rw [List.getElem?_eq_none (by rw [hf]; exact h)] at hv; cases hv
  rw [flat_at hf S k i hk this]; exact hv
end Slk
