import Derived.Test.YtpgpfcplchaleaaSlkD
import Derived.Lib.SlBytesConst
set_option linter.unusedVariables false
set_option linter.unusedSimpArgs false
namespace Slk
open Go

theorem zeroCells_eq (z : Array Value) (n : Nat) : (Builtin.zeroCells z n).toList = zerosL z.toList n := zeros_eq z n
theorem zerosL_length (z : List Value) (n : Nat) : (zerosL z n).length = n * z.length := by
  simp [zerosL, List.length_flatten, List.map_replicate, List.sum_replicate_nat]

section
variable {P : Program} {D : Nat → Prop} {w0 : World} {env : Slots} {l : List HProp} {dst : Option Tmp} {ty : TypeId} {pos : String} {after : Array Edge} {g : Option (Nat × Bool)}

theorem run_firstCells' {B : Option Addr} {news : List Value} {m s capB : Nat} {w : World} (hl : news.length = m * s) (hA : news ≠ [] → isA B) (hc : news ≠ [] → ∀ i v, news[i]? = some v → w.cell? ⟨ab B, ao B + i, none⟩ = some v) :
    (Builtin.firstCells s m (.slice B m capB)).run P w = .ok news.toArray w := by
  by_cases hne : news = []
  · subst hne
    have h0 : m * s = 0 := by simpa using hl.symm
    cases B with
    | none => simp [Builtin.firstCells]
    | some a => simp [Builtin.firstCells, loadCells, h0, loadCellsFrom]
  · have h1 := hA hne
    rw [h1]
    exact run_firstCells_some w s m ⟨ab B, ao B, none⟩ m capB news hl (fun j v hj => by rw [add_lit']; exact hc hne j v hj)

theorem on_append {t e : TypeId} {s bb : Nat} {z : List Value} [h : TySlice P t e] [hs : TyI P e s bb z] {x y : Operand} {A B : Option Addr} {n cap m capB : Nat} {cs news : List Value} {r : List HProp}
    (hx : evalO env x = some (.slice A n cap)) (hy : evalO env y = some (.slice B m capB)) [hp : Pick l (row A e s n cap cs) r] (hsrc : SrcIs D w0 l B news) (hm : news.length = m * s) (h1 : ∀ v ∈ news, v.oneCell' = true) (hb0 : 0 < bb) (hb : (n + m) * bb ≤ 140737488355328) :
    OpNew P D w0 env l ⟨dst, .call ⟨.builtin .append, #[x, y], #[t, t]⟩, ty, pos, after, g⟩ (fun p : Option Addr × Nat => .slice p.1 (n + m) p.2) (fun p => row p.1 e s (n + m) p.2 (cs ++ news) :: r) := .mk fun n' a w E H => by
  have hz := hs.len
  have H' := H.ent (Ent.perm hp.out)
  have hsrcA := hsrc.isA
  have hsrcC := fun k => hsrc.cells k w H
  -- the run's value
  suffices hrun : ∃ p : Option Addr × Nat, ∃ w', (Builtin.append_ #[t, t] ty #[.slice A n cap, .slice B m capB]).run P w = .ok (.slice p.1 (n + m) p.2) w' ∧ Own D w0 w' (row p.1 e s (n + m) p.2 (cs ++ news) :: r) by
    obtain ⟨p, w', hr, hO⟩ := hrun
    refine ⟨p, w', .inl ?_, hO⟩
    simp [execOp, resolve, invoke, builtin, E.eval hx, E.eval hy, hr]
  obtain ⟨i, hi, hi1, hi2, zv, hi3, hi4⟩ := run_info (P := P) (t := e)
  obtain ⟨hh, ha, h2, h3, ⟨q1, q2, qm, q3⟩, q4, q5, q6, q7⟩ := H'.own
  have hnewlen : (cs ++ news).length = (n + m) * s := by rw [List.length_append, q1, hm, Nat.add_mul]
  have hfn : ∀ w' : World, w'.heap = w.heap → (Builtin.firstCells s m (.slice B m capB)).run P w' = .ok news.toArray w' := fun w' hw' => run_firstCells' hm hsrcA (fun k i v hi => by
    have := hsrcC k i v hi
    unfold World.cell? at this ⊢
    rw [hw']; exact this)
  have hneed : n + m ≤ 140737488355328 := Nat.le_trans (Nat.le_mul_of_pos_right _ hb0) hb
  by_cases hcap : n + m ≤ cap
  · rcases q3 with ⟨rfl, rfl⟩ | ⟨b, pre, rest, rfl, q8, q9⟩
    · have hn0 : n = 0 := by omega
      have hm0 : m = 0 := by omega
      subst hn0; subst hm0
      have hcs : cs = [] := List.eq_nil_of_length_eq_zero (by simpa using q1)
      have hnw : news = [] := List.eq_nil_of_length_eq_zero (by simpa using hm)
      subst hcs; subst hnw
      have hf0 := hfn w rfl
      refine ⟨(none, 0), w, ?_, H'⟩
      simp [Builtin.append_, run_underlying h.out, run_sizeOf (P := P) (t := e), Builtin.lenOf, hf0]
    · -- in place
      have hrl : m * s ≤ rest.length := by
        have : m ≤ cap - n := by omega
        exact Nat.le_trans (Nat.mul_le_mul_right s this) q8
      have Hb : Own D w0 w (blk b e (pre ++ cs ++ rest) :: r) := by
        exact ⟨H'.os, H'.tape, H'.output, H'.size, H'.old, hh, ha, h2, h3, q9, q4, q5, q6, q7⟩
      have hst := run_store_blk (P := P) Hb (pre.length + n * s) news (by simp; omega) h1
      have Hn := Own.setCells news (pre.length + n * s) Hb
      refine ⟨(some ⟨b, pre.length, none⟩, cap), w.setCells b (pre.length + n * s) news, ?_, Hn.ent (Ent.head fun x hx => ?_)⟩
      · have hf0 := hfn w rfl
        simp [Builtin.append_, run_underlying h.out, run_sizeOf (P := P) (t := e), Builtin.lenOf, hf0, hcap, add_lit', hst]
      · refine ⟨hnewlen, hcap, qm, .inr ⟨b, pre, rest.drop (m * s), rfl, ?_, ?_⟩⟩
        · show (cap - (n + m)) * s ≤ _
          rw [List.length_drop]
          have e3 : (cap - (n + m)) * s + m * s = (cap - n) * s := by rw [← Nat.add_mul]; congr 1; omega
          omega
        · have e1 : rest = rest.take (m * s) ++ rest.drop (m * s) := (List.take_append_drop _ _).symm
          have e2 : setSeg (pre ++ cs ++ rest) (pre.length + n * s) news = pre ++ (cs ++ news) ++ rest.drop (m * s) := by
            have := setSeg_mid (pre ++ cs) (rest.take (m * s)) (rest.drop (m * s)) news (pre.length + n * s) (by simp [q1]) (by simp [hm]; omega)
            rw [List.append_assoc (pre ++ cs), ← e1] at this
            rw [this]
            simp [List.append_assoc]
          rw [← e2]
          exact hx
  · have hzs : zv.cells.size = s := by rw [← Array.length_toList, hi4, hz]
    have hgrow : ∀ (cells : List Value) (c0 : Nat), n + m ≤ c0 → c0 ≤ 9223372036854775807 → ∀ w' : World, Own D w0 w' r → Own D w0 (w'.alloc (.cells (cs ++ news ++ zerosL z (c0 - (n + m))).toArray e)) (row (some ⟨w'.heap.size, 0, none⟩) e s (n + m) c0 (cs ++ news) :: r) := fun _ c0 hc0 hc1 w' HO => by
      refine (HO.alloc e (cs ++ news ++ zerosL z (c0 - (n + m)))).ent (Ent.head fun x hx => ?_)
      exact ⟨hnewlen, hc0, hc1, .inr ⟨w'.heap.size, [], zerosL z (c0 - (n + m)), rfl, by rw [zerosL_length, hz]; exact Nat.le_refl _, by simpa using hx⟩⟩
    have Hr : Own D w0 w r := H'.ent (Ent.drop (Ent.refl _))
    have hcapge : ∀ old, n + m ≤ grownCap w (n + m) old e := fun old => by
      unfold grownCap Question.cut
      exact Nat.le_add_right _ _
    have hcaple : ∀ old, grownCap w (n + m) old e ≤ 9223372036854775807 := fun old => by
      unfold grownCap Question.cut
      have h2 : (2 : Nat) ^ 63 = 9223372036854775808 := by decide
      have := Nat.mod_lt (w.tape w.drawn (.appendCap (n + m) old e)) (show 0 < 2 ^ 63 - (n + m) by rw [h2]; omega)
      simp only
      rw [h2] at this ⊢
      omega
    rcases q3 with ⟨rfl, rfl⟩ | ⟨b, pre, rest, rfl, q8, q9⟩
    · have hn0 : n = 0 := by omega
      subst hn0
      have hcs : cs = [] := List.eq_nil_of_length_eq_zero (by simpa using q1)
      subst hcs
      have hm0 : 0 < m := by omega
      have hf0 := hfn w.drew rfl
      refine ⟨(some ⟨w.heap.size, 0, none⟩, grownCap w (0 + m) 0 e), w.drew.alloc (.cells ([] ++ news ++ zerosL z (grownCap w (0 + m) 0 e - (0 + m))).toArray e), ?_, hgrow [] _ (hcapge 0) (hcaple 0) w.drew Hr.drew⟩
      have hne : ¬ (m = 0) := by omega
      have h63' : ¬ (9223372036854775807 < (m : Int)) := by omega
      have h48' : ¬ (281474976710656 < Builtin.nextslicecap m 0 * i.bytes) := by
        have := growslice_fits (need := m) (old := 0) (bytes := bb) hm0 (by simpa using hb)
        rw [hi2]; omega
      have hzz : (Builtin.zeroCells zv.cells (grownCap w m 0 e - m)) = (zerosL z (grownCap w m 0 e - m)).toArray := by
        apply Array.ext'; rw [zeroCells_eq, hi4]
      simp [Builtin.append_, run_underlying h.out, Go.sizeOf, typeInfo, zeroValue, hi, hi3, Builtin.lenOf, hne, h63', h48', Question.forced, run_firstCells_none]
      simp only [hi1, hf0, Result.andThen_ok]
      simp only [grownCap] at hzz
      simp [newRow, grownCap, hzz]
    · have hf0 := hfn w.drew rfl
      have hfo := run_firstCells_some (P := P) w.drew s n ⟨b, pre.length, none⟩ n cap cs q1 (fun j v hj => by
        rw [add_lit']
        obtain ⟨fr, qb, _⟩ := q9
        have := (ha b _ (q6 _ _ qb)).1
        show w.cell? ⟨b, pre.length + j, none⟩ = some v
        simp only [World.cell?, this, Option.isSome_none, Bool.false_eq_true, if_false, List.getElem?_toArray]
        have hj' : j < cs.length := by
          rcases Nat.lt_or_ge j cs.length with h | h
          · exact h
          · simp [List.getElem?_eq_none h] at hj
        rw [List.append_assoc, List.getElem?_append_right (by omega), Nat.add_sub_cancel_left, List.getElem?_append_left hj']
        exact hj)
      refine ⟨(some ⟨w.heap.size, 0, none⟩, grownCap w (n + m) cap e), w.drew.alloc (.cells (cs ++ news ++ zerosL z (grownCap w (n + m) cap e - (n + m))).toArray e), ?_, hgrow [] _ (hcapge cap) (hcaple cap) w.drew Hr.drew⟩
      have hn : ¬ (n + m ≤ cap) := hcap
      have h63' : ¬ (9223372036854775807 < ((n : Int) + (m : Int))) := by omega
      have h48' : ¬ (281474976710656 < Builtin.nextslicecap (n + m) cap * i.bytes) := by
        have := growslice_fits (need := n + m) (old := cap) (bytes := bb) (by omega) hb
        rw [hi2]; omega
      have hzz : (Builtin.zeroCells zv.cells (grownCap w (n + m) cap e - (n + m))) = (zerosL z (grownCap w (n + m) cap e - (n + m))).toArray := by
        apply Array.ext'; rw [zeroCells_eq, hi4]
      simp [Builtin.append_, run_underlying h.out, Go.sizeOf, typeInfo, zeroValue, hi, hi3, Builtin.lenOf, hn, h63', h48', Question.forced]
      simp only [hi1, hf0, hfo, Result.andThen_ok]
      simp only [grownCap] at hzz
      simp [newRow, grownCap, hzz]

/-- copy(dst, src): a stretch of a block is written. -/
theorem on_copy {t u e : TypeId} {s bb : Nat} {z : List Value} [h : TySlice P t e] [hs : TyI P e s bb z] {x y : Operand} {b off n cap m capB : Nat} {B : Option Addr} {et : TypeId} {cs news : List Value} {r : List HProp}
    (hx : evalO env x = some (.slice (some ⟨b, off, none⟩) n cap)) (hy : evalO env y = some (.slice B m capB)) [hp : PickB l b et cs r] (hsrc : SrcIs D w0 l B news) (hm : news.length = m * s) (hmn : m ≤ n) (ho : off + news.length ≤ cs.length) (h1 : ∀ v ∈ news, v.oneCell' = true) :
    OpNew P D w0 env l ⟨dst, .call ⟨.builtin .copy, #[x, y], #[t, u]⟩, ty, pos, after, g⟩ (fun _ : Unit => .int .i64 m) (fun _ => blk b et (setSeg cs off news) :: r) := .mk fun n' a w E H => by
  have H' := H.ent (Ent.perm hp.out)
  have hf := run_firstCells' (P := P) (capB := capB) hm hsrc.isA (fun k => hsrc.cells k w H)
  have hst := run_store_blk (P := P) H' off news ho h1
  refine ⟨(), w.setCells b off news, .inl ?_, Own.setCells news off H'⟩
  have hmin : Nat.min m n = m := Nat.min_eq_left hmn
  simp [execOp, resolve, invoke, builtin, E.eval hx, E.eval hy, Builtin.copy_, run_underlying h.out, Builtin.lenOf, hmin, run_sizeOf (P := P) (t := e), hf, hst, goInt]

/-- make([]T, n) -/
theorem on_make {t e : TypeId} {s bb : Nat} {z : List Value} [h : TySlice P t e] [hs : TyI P e s bb z] {x y : Operand} {k k' : IntKind} {i : Int} (hx : evalO env x = some (.int k i)) (hy : evalO env y = some (.int k' i)) (m : Nat) (hi : i = (m : Int)) (hb : bb * m ≤ 281474976710656) (hm : m ≤ 9223372036854775807) :
    OpNew P D w0 env l ⟨dst, .makeSlice t x y, ty, pos, after, g⟩ (fun b : Nat => .slice (some ⟨b, 0, none⟩) m m) (fun b => blk b e (zerosL z m) :: l) := .mk fun n a w E H => by
  subst hi
  have hz := hs.len
  obtain ⟨v, hz1, hz2⟩ := run_zero (P := P) (t := e) w
  obtain ⟨ti, hi, hi1, hi2, _⟩ := run_info (P := P) (t := e)
  refine ⟨w.heap.size, w.alloc (.cells (zerosL z m).toArray e), .inl ?_, H.alloc e _⟩
  have hwrap : IntKind.i64.wrap (m : Int) = m := wrap_i64 (by omega)
  have hsz : v.cells.size = s := by rw [← Array.length_toList, hz2, hz]
  have hb1 : ¬ (((ti.bytes : Nat) : Int) * (m : Int) > 2 ^ 48) := by
    rw [hi2]
    have e : ((2 : Int) ^ 48) = 281474976710656 := by decide
    have e2 : ((bb * m : Nat) : Int) ≤ 281474976710656 := by omega
    rw [Int.natCast_mul] at e2
    rw [e]; omega
  have hr0 : ∀ f : Nat → Value, m * s = 0 → Array.map f (Array.range (m * s)) = #[] := fun f h0 => by rw [h0]; apply Array.ext'; simp
  simp only [execOp, Instr.makeSlice, Sem.run_bind, run_underlying h.out, Result.andThen_ok, E.eval hx, E.eval hy, asInt, asIntOf, Sem.run_pure, typeInfo, run_program, hi, hwrap]
  have hneg : ¬ ((m : Int) < 0) := by omega
  simp only [hneg, decide_false, Bool.false_or, hb1, Int.toNat_natCast]
  have hlt : ¬ ((m : Int) < (m : Int)) := by omega
  simp only [gt_iff_lt, hlt, or_self, decide_false, if_false, Bool.false_eq_true, Bool.or_self, run_askRoom, Result.andThen_ok, Sem.run_bind, run_sizeOf (P := P) (t := e), Sem.run_pure]
  by_cases h0 : m * s = 0
  · have hzz : zerosL z m = [] := by
      rcases Nat.mul_eq_zero.1 h0 with h | h
      · simp [zerosL, h]
      · have : z = [] := List.eq_nil_of_length_eq_zero (by omega)
        simp [zerosL, this]
    rw [if_pos h0]
    simp [hr0 _ h0, hzz, newRow]
  · have hz3 : (Array.range (m * s)).map (fun i => v.cells[i % v.cells.size]!) = (zerosL z m).toArray := by
      apply Array.ext'
      have hzz := zeros_eq v.cells m
      rw [hz2, hsz] at hzz
      rw [← hzz, hsz]
    rw [if_neg h0]
    simp [hz1, hz3, newRow]

/-- []byte("..") of a constant: the block bears a mark. -/
theorem Own.mark {D : Nat → Prop} {w0 w : World} {l : List HProp} {b : Nat} {t : TypeId} {cs : List Value} (H : Own D w0 w (blk b t cs :: l)) : Own D w0 (w.freeze ⟨b, cs.length, none⟩ 1) (blk b t cs :: l) := by
  refine H.turn (by unfold World.freeze; split <;> rfl) (by unfold World.freeze; split <;> rfl) (by unfold World.freeze; split <;> rfl) (by simp [World.freeze]) (fun x hx => ?_) fun fr hb hfr => ?_
  · simp only [World.freeze, Nat.one_ne_zero, if_false, Array.getElem?_modify]
    rw [if_neg (fun e => hx e.symm)]
  · obtain ⟨lo, hi⟩ := fr
    simp only [World.freeze, Nat.one_ne_zero, if_false, Array.getElem?_modify, if_true, hb, Option.map_some]
    by_cases h0 : lo = hi
    · subst h0
      exact ⟨(cs.length, cs.length + 1), by simp, .inr (Nat.le_refl _)⟩
    · refine ⟨(min lo cs.length, max hi (cs.length + 1)), by simp [h0], .inr ?_⟩
      rcases hfr with k | k
      · simp only [Prod.mk.injEq] at k; omega
      · simp only at k ⊢; omega
theorem on_mark {t e : TypeId} [h : TySlice P t e] [he : TyInt P e .u8] {x : Operand} {b n cap : Nat} {cs : List Value} {r : List HProp} (hx : evalO env x = some (.slice (some ⟨b, 0, none⟩) n cap)) [hp : PickB l b e cs r] :
    OpNew P D w0 env l ⟨dst, .convert t t x, ty, pos, after, g⟩ (fun _ : Unit => .slice (some ⟨b, 0, none⟩) n cap) (fun _ => blk b e cs :: r) := .mk fun n' a w E H => by
  have H' := H.ent (Ent.perm hp.out)
  obtain ⟨fr, hb, _⟩ := H'.at_blk
  refine ⟨(), w.freeze ⟨b, cs.length, none⟩ 1, .inl ?_, H'.mark⟩
  have hsh : w.shape? b = some (e, cs.length) := by simp [World.shape?, hb]
  simp [execOp, E.eval hx, convert, run_underlying h.out, run_underlying he.out, markStringish, hsh]
end
end Slk
