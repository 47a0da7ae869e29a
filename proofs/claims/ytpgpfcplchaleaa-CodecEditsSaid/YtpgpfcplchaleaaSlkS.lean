import Derived.Test.YtpgpfcplchaleaaSlkR
set_option linter.unusedVariables false
set_option linter.unusedSimpArgs false
namespace Slk
open Go
/-! ### Function values that are called -/
section
variable {P : Program} {Q : Post} {D : Nat → Prop} {w0 : World} {n : Nat} {env : Slots} {l : List HProp} {ops : Array Oper} {r : List Oper}
theorem hl_callv {d f : Nat} {fx : Operand} {fs cs : List Value} {args : List Operand} {ats : Array TypeId} {ty : TypeId} {pos : String} {after : Array Edge} {vs : List Value} {σ : Type} {v : σ → Value} {l' : σ → List HProp} (hf : evalO env fx = some (.func (.func f) fs.toArray cs.toArray)) (hcf : ∀ args w, (callFunc f args).run P w = .ok (.enter f args) w)
    (hv : evalL env args = some vs) (hn : Nat.blt d n = true) (hc : ∀ w, Own D w0 w l → Calls P f (fs ++ vs ++ cs).toArray w fun e w' => ∃ s, e = .returned (v s) ∧ Own D w0 w' (l' s))
    (k : ∀ s, HL P ops Q D w0 n ((d, v s) :: env) (l' s) r) : HL P ops Q D w0 n env l (⟨some d, .call ⟨.value fx, args.toArray, ats⟩, ty, pos, after, none⟩ :: r) := .mk fun a w S => by
  refine wpList_plain rfl fun K hK => ?_
  unfold Oper.wp
  have hrun : (execOp a.eval ⟨some d, .call ⟨.value fx, args.toArray, ats⟩, ty, pos, after, none⟩).run P w = .ok (.enter f (fs ++ vs ++ cs).toArray) w := by
    simp [execOp, resolve, Deferred.ofValue, S.env.eval hf, invoke, S.env.evals hv, hcf]
  rw [hrun, Oper.upon_enter]
  refine (hc w S.own).mono fun e w' ⟨s, he, H⟩ => ?_
  subst he
  exact hK _ _ ((k s).run _ w' ⟨S.env.put hn _, H⟩)
theorem hl_cv {d f : Nat} {fx : Operand} {fs cs : List Value} {args : List Operand} {ats : Array TypeId} {ty : TypeId} {pos : String} {after : Array Edge} {vs : List Value} {v : Value} {l' : List HProp} (hf : evalO env fx = some (.func (.func f) fs.toArray cs.toArray)) (hcf : ∀ args w, (callFunc f args).run P w = .ok (.enter f args) w)
    (hv : evalL env args = some vs) (hn : Nat.blt d n = true) (hc : ∀ w, Own D w0 w l → Calls P f (fs ++ vs ++ cs).toArray w fun e w' => e = .returned v ∧ Own D w0 w' l')
    (k : HL P ops Q D w0 n ((d, v) :: env) l' r) : HL P ops Q D w0 n env l (⟨some d, .call ⟨.value fx, args.toArray, ats⟩, ty, pos, after, none⟩ :: r) :=
  hl_callv (σ := Unit) (v := fun _ => v) (l' := fun _ => l') hf hcf hv hn (fun w H => (hc w H).mono fun e w' h => ⟨(), h⟩) fun _ => k
/-! ### Results that lie in memory -/
theorem res_cell {fn : Func} {ty : TypeId} {s bb b : Nat} {z cs : List Value} {et : TypeId} {rr : List HProp} [h : TyAgg P ty] [hs : TyI P ty s bb z] [hp : PickB l b et cs rr] (hl : cs.length = s) {w : World} (H : Own D w0 w l) : (loadVar ty ⟨b, 0, none⟩).run P w = .ok (.agg cs.toArray) w :=
  run_loadVar_agg hl fun i v hi => by
    rw [Nat.zero_add]
    exact (CellIs.blk (D := D) (w0 := w0) (l := l) (b := b) (off := i) hi) w H
theorem results_c {fn : Func} {R : Ending → World → Prop} {e : Exit} (he : e = .normal ∨ e = .ret) {t : Nat} {ty : TypeId} {s bb b : Nat} {z cs : List Value} {et : TypeId} {rr : List HProp} [h : TyAgg P ty] [hs : TyI P ty s bb z] (hr : fn.results = #[.cell t ty]) (hv : Slots.get env t = some (.pointer (some ⟨b, 0, none⟩))) [hp : PickB l b et cs rr] (hl : cs.length = s)
    (k : ∀ w, Own D w0 w l → R (.returned (.agg cs.toArray)) w) : HX (bodyPost P fn R) e D w0 n env l := .mk fun a w S => by
  have h1 := res_cell (fn := fn) (P := P) (ty := ty) (b := b) hl S.own
  have k1 : (results fn a.tmps).run P w = .ok (.agg cs.toArray) w := by simp [results, hr, S.env.get _ _ hv, asAddr, h1]
  rcases he with rfl | rfl <;> exact ⟨S.env.defers, _, k1, k w S.own⟩
theorem results_ct {fn : Func} {R : Ending → World → Prop} {e : Exit} (he : e = .normal ∨ e = .ret) {t u : Nat} {ty : TypeId} {s bb b : Nat} {z cs : List Value} {et : TypeId} {rr : List HProp} {y : Value} [h : TyAgg P ty] [hs : TyI P ty s bb z] (hr : fn.results = #[.cell t ty, .tmp u]) (hv : Slots.get env t = some (.pointer (some ⟨b, 0, none⟩))) [hp : PickB l b et cs rr] (hl : cs.length = s) (hy : Slots.get env u = some y)
    (k : ∀ w, Own D w0 w l → R (.returned (.tuple #[.agg cs.toArray, y])) w) : HX (bodyPost P fn R) e D w0 n env l := .mk fun a w S => by
  have h1 := res_cell (fn := fn) (P := P) (ty := ty) (b := b) hl S.own
  have k1 : (results fn a.tmps).run P w = .ok (.tuple #[.agg cs.toArray, y]) w := by simp [results, hr, S.env.get _ _ hv, S.env.get _ _ hy, asAddr, h1]
  rcases he with rfl | rfl <;> exact ⟨S.env.defers, _, k1, k w S.own⟩
theorem results_ctt {fn : Func} {R : Ending → World → Prop} {e : Exit} (he : e = .normal ∨ e = .ret) {t u u2 : Nat} {ty : TypeId} {s bb b : Nat} {z cs : List Value} {et : TypeId} {rr : List HProp} {y y2 : Value} [h : TyAgg P ty] [hs : TyI P ty s bb z] (hr : fn.results = #[.cell t ty, .tmp u, .tmp u2]) (hv : Slots.get env t = some (.pointer (some ⟨b, 0, none⟩))) [hp : PickB l b et cs rr] (hl : cs.length = s) (hy : Slots.get env u = some y) (hy2 : Slots.get env u2 = some y2)
    (k : ∀ w, Own D w0 w l → R (.returned (.tuple #[.agg cs.toArray, y, y2])) w) : HX (bodyPost P fn R) e D w0 n env l := .mk fun a w S => by
  have h1 := res_cell (fn := fn) (P := P) (ty := ty) (b := b) hl S.own
  have k1 : (results fn a.tmps).run P w = .ok (.tuple #[.agg cs.toArray, y, y2]) w := by simp [results, hr, S.env.get _ _ hv, S.env.get _ _ hy, S.env.get _ _ hy2, asAddr, h1]
  rcases he with rfl | rfl <;> exact ⟨S.env.defers, _, k1, k w S.own⟩
end
section
variable {P : Program} {D : Nat → Prop} {w0 : World} {env : Slots} {l : List HProp} {dst : Option Tmp} {ty : TypeId} {pos : String} {after : Array Edge} {g : Option (Nat × Bool)}
theorem on_boxG {e : TypeId} {x : Operand} {cs : List Value} (hx : evalO env x = some (.agg cs.toArray)) : OpNew P D w0 env l ⟨dst, .box e x, ty, pos, after, g⟩ (fun b : Nat => .pointer (some ⟨b, 0, none⟩)) (fun b => blk b e cs :: l) := on_box hx
/-- A block as a whole is read, and written. -/
theorem ov_loadW {t et : TypeId} {s bb : Nat} {z : List Value} [h : TyAgg P t] [hs : TyI P t s bb z] {x : Operand} {b : Nat} {cs : List Value} {r : List HProp} (hx : evalO env x = some (.pointer (some ⟨b, 0, none⟩))) [hp : PickB l b et cs r] (hl : cs.length = s) : OpVal P D w0 env l ⟨dst, .load t x, ty, pos, after, g⟩ (.agg cs.toArray) :=
  ov_loadG hx hl (CellsAre.blk (fun i v hv => by rw [Nat.zero_add]; exact hv))
theorem setSeg_all {cs vs : List Value} (h : vs.length = cs.length) : setSeg cs 0 vs = vs := by
  have := setSeg_mid [] cs [] vs 0 rfl h
  simpa using this
theorem on_storeW {t et : TypeId} {s bb : Nat} {z : List Value} [h : TyI P t s bb z] {x y : Operand} {b : Nat} {cs vs : List Value} {r : List HProp} (hx : evalO env x = some (.pointer (some ⟨b, 0, none⟩))) (hy : evalO env y = some (.agg vs.toArray)) [hp : PickB l b et cs r] (hl : vs.length = s) (hc : cs.length = s) (h1 : ∀ v ∈ vs, v.oneCell' = true) :
    OpNew P D w0 env l ⟨dst, .store t x y, ty, pos, after, g⟩ (fun _ : Unit => undef) (fun _ => blk b et vs :: r) := by
  have := on_storeG (P := P) (D := D) (w0 := w0) (dst := dst) (ty := ty) (pos := pos) (after := after) (g := g) (t := t) hx hy (hp := hp) hl (by omega) h1
  rw [setSeg_all (by omega)] at this
  exact this
/-- Stores, what they make given in other words. -/
theorem on_storeE {t et : TypeId} {bb : Nat} {z : List Value} [h : TyI P t 1 bb z] {x y : Operand} {b off : Nat} {cs : List Value} {r : List HProp} {v : Value} (cs' : List Value) (hx : evalO env x = some (.pointer (some ⟨b, off, none⟩))) (hy : evalO env y = some v) [hp : PickB l b et cs r] (ho : off < cs.length) (h1 : v.oneCell' = true) (hn : cs.set off v = cs') :
    OpNew P D w0 env l ⟨dst, .store t x y, ty, pos, after, g⟩ (fun _ : Unit => undef) (fun _ => blk b et cs' :: r) := by subst hn; exact on_store hx hy ho h1
theorem on_storeGE {t et : TypeId} {s bb : Nat} {z : List Value} [h : TyI P t s bb z] {x y : Operand} {b off : Nat} {cs vs : List Value} {r : List HProp} (cs' : List Value) (hx : evalO env x = some (.pointer (some ⟨b, off, none⟩))) (hy : evalO env y = some (.agg vs.toArray)) [hp : PickB l b et cs r] (hl : vs.length = s) (ho : off + vs.length ≤ cs.length) (h1 : ∀ v ∈ vs, v.oneCell' = true) (hn : setSeg cs off vs = cs') :
    OpNew P D w0 env l ⟨dst, .store t x y, ty, pos, after, g⟩ (fun _ : Unit => undef) (fun _ => blk b et cs' :: r) := by subst hn; exact on_storeG hx hy hl ho h1
theorem on_storeRE {t e : TypeId} {bb sz n cap : Nat} {z : List Value} [h : TyI P t 1 bb z] {x y : Operand} {A : Option Addr} {o : Nat} {cs : List Value} {r : List HProp} {v : Value} (cs' : List Value) (hx : evalO env x = some (.pointer (some ⟨ab A, ao A + o, none⟩))) (hy : evalO env y = some v) [hp : PickR l A e sz n cap cs r] (ho : o < cs.length) (h1 : v.oneCell' = true) (hn : cs.set o v = cs') :
    OpNew P D w0 env l ⟨dst, .store t x y, ty, pos, after, g⟩ (fun _ : Unit => undef) (fun _ => row A e sz n cap cs' :: r) := by subst hn; exact on_storeR hx hy ho h1
theorem on_storeRGE {t e : TypeId} {s bb sz n cap : Nat} {z : List Value} [h : TyI P t s bb z] {x y : Operand} {A : Option Addr} {o : Nat} {cs vs : List Value} {r : List HProp} (cs' : List Value) (hx : evalO env x = some (.pointer (some ⟨ab A, ao A + o, none⟩))) (hy : evalO env y = some (.agg vs.toArray)) [hp : PickR l A e sz n cap cs r] (hl : vs.length = s) (hne : 0 < cs.length) (ho : o + vs.length ≤ cs.length) (h1 : ∀ v ∈ vs, v.oneCell' = true) (hn : setSeg cs o vs = cs') :
    OpNew P D w0 env l ⟨dst, .store t x y, ty, pos, after, g⟩ (fun _ : Unit => undef) (fun _ => row A e sz n cap cs' :: r) := by subst hn; exact on_storeRG hx hy hl hne ho h1
end
/-! ### Lists whose elements have as many cells each -/
section
variable {α β : Type} {f : α → List β} {sz : Nat}
theorem flat_len (hf : ∀ x, (f x).length = sz) : ∀ (xs : List α), (xs.flatMap f).length = xs.length * sz
  | [] => by simp
  | x :: r => by rw [List.flatMap_cons, List.length_append, hf, flat_len hf r, List.length_cons, Nat.add_mul]; omega
theorem flat_at (hf : ∀ x, (f x).length = sz) : ∀ (xs : List α) (i j : Nat) (hi : i < xs.length), j < sz → (xs.flatMap f)[i * sz + j]? = (f xs[i])[j]?
  | x :: r, 0, j, _, hj => by rw [List.flatMap_cons, Nat.zero_mul, Nat.zero_add, List.getElem?_append_left (by rw [hf]; exact hj)]; rfl
  | x :: r, i + 1, j, hi, hj => by
    rw [List.flatMap_cons, List.getElem?_append_right (by rw [hf, Nat.add_mul]; omega), hf, show (i + 1) * sz + j - sz = i * sz + j by rw [Nat.add_mul]; omega]
    exact flat_at hf r i j (by simpa using hi) hj
theorem flat_set {f : α → List Value} (hf : ∀ x, (f x).length = sz) : ∀ (xs : List α) (i : Nat) (y : α), i < xs.length → setSeg (xs.flatMap f) (i * sz) (f y) = (xs.set i y).flatMap f
  | x :: r, 0, y, _ => by
    rw [List.flatMap_cons, List.set_cons_zero, List.flatMap_cons, Nat.zero_mul]
    have := setSeg_mid [] (f x) (r.flatMap f) (f y) 0 rfl (by rw [hf, hf])
    simpa using this
  | x :: r, i + 1, y, hi => by
    rw [List.flatMap_cons, List.set_cons_succ, List.flatMap_cons, ← flat_set hf r i y (by simpa using hi)]
    have := setSeg_in (f x) (r.flatMap f) [] (f y) (i * sz) (by rw [flat_len hf, hf]; have : i < r.length := by simpa using hi
                                                                have := Nat.mul_le_mul_right sz (show i + 1 ≤ r.length by omega); rw [Nat.add_mul] at this; omega)
    rw [hf, List.append_nil, List.append_nil] at this
    rw [show (i + 1) * sz = sz + i * sz by rw [Nat.add_mul]; omega]
    exact this
end
theorem CellsAre.row {D : Nat → Prop} {w0 : World} {l r : List HProp} {A : Option Addr} {t : TypeId} {sz n cap : Nat} {cs : List Value} [h : PickR l A t sz n cap cs r] (hA : Slk.isA A) {off : Nat} {vs : List Value} (hv : ∀ i v, vs[i]? = some v → cs[off + i]? = some v) : CellsAre D w0 l (ab A) (ao A + off) vs := fun w H i v hi => by
  rw [Nat.add_assoc]
  exact CellIs.row (D := D) (w0 := w0) (l := l) hA (hv i v hi) w H
theorem CellsAre.flat {D : Nat → Prop} {w0 : World} {l r : List HProp} {α : Type} {f : α → List Value} {sz : Nat} (hf : ∀ x, (f x).length = sz) {xs : List α} {A : Option Addr} {t : TypeId} {n cap : Nat} [h : PickR l A t sz n cap (xs.flatMap f) r] (hA : Slk.isA A) {i : Nat} (hi : i < xs.length) : CellsAre D w0 l (ab A) (ao A + i * sz) (f xs[i]) :=
  CellsAre.row hA fun j v hj => by
    have : j < sz := by
      rcases Nat.lt_or_ge j sz with h | h
      · exact h
      · rw [List.getElem?_eq_none (by rw [hf]; exact h)] at hj; cases hj
    rw [flat_at hf xs i j hi this]; exact hj
theorem CellsAre.sub {D : Nat → Prop} {w0 : World} {l : List HProp} {b off o : Nat} {cs vs : List Value} (h : CellsAre D w0 l b off cs) (hv : ∀ i v, vs[i]? = some v → cs[o + i]? = some v) : CellsAre D w0 l b (off + o) vs := fun w H i v hi => by
  rw [Nat.add_assoc]; exact h w H _ v (hv i v hi)
/-- A block of old memory. -/
theorem Old.blk {D : Nat → Prop} {w0 : World} {b : Nat} {t : TypeId} {cs : List Value} (h : Old D w0 (Slk.blk b t cs)) : OldCells D w0 b 0 cs := by
  obtain ⟨x, hx, fr, h1, h2⟩ := h
  obtain ⟨k1, k2⟩ := hx b _ h1
  refine ⟨k2, (Array.getElem?_eq_some_iff.1 k1).1, fun i v hv => ?_⟩
  simp [World.cell?, k1, hv]
theorem stars_blk {l r : List HProp} {b : Nat} {t : TypeId} {cs : List Value} [h : PickB l b t cs r] {y : Heap} (hs : stars l y) : Slk.blk b t cs y := by
  obtain ⟨h1, h2, ⟨fr, a, c⟩, _, _, s1, _⟩ := stars_perm h.out hs
  exact ⟨fr, s1 _ _ a, c⟩
end Slk
