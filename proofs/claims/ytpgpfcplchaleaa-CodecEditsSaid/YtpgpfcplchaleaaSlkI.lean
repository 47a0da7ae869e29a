import Derived.Test.YtpgpfcplchaleaaSlkH
set_option linter.unusedVariables false
set_option linter.unusedSimpArgs false
namespace Slk
open Go
/-- A list that is written out, cell by cell. -/
def normL : List Value → Option (List Value)
  | [] => some []
  | v :: r => match normL r with
    | some r' => some (v :: r')
    | none => none
theorem normL_eq : ∀ {l l' : List Value}, normL l = some l' → l = l'
  | [], l', h => by simpa [normL] using h
  | v :: r, l', h => by
    simp only [normL] at h
    split at h
    · rename_i r' hr
      simp only [Option.some.injEq] at h
      rw [← h, normL_eq hr]
    · cases h
section
variable {P : Program} {D : Nat → Prop} {w0 : World} {env : Slots} {l : List HProp} {dst : Option Tmp} {ty : TypeId} {pos : String} {after : Array Edge} {g : Option (Nat × Bool)}
def bindN (o : Option (List Value)) : Option (List Value) := match o with | some l => normL l | none => none
theorem bindN_eq {o : Option (List Value)} {r : List Value} (h : bindN o = some r) : o = some r := by
  unfold bindN at h
  split at h
  · rw [normL_eq h]
  · cases h
theorem ov_buildSN {t : TypeId} {s bb : Nat} {z : List Value} {pl : List (Nat × Nat)} [h : TyS P t pl] [hs : TyI P t s bb z] {parts : List (Nat × Operand)} {vs : List (Nat × Value)} {res : List Value} (hv : evalP env parts = some vs) (hf : bindN (fillL (fun i => pl[i]?) z vs) = some res) :
    OpVal P D w0 env l ⟨dst, .build t parts.toArray, ty, pos, after, g⟩ (.agg res.toArray) := ov_buildS hv (bindN_eq hf)
theorem ov_buildAN {t e : TypeId} {m s bb es eb : Nat} {z ez : List Value} [h : TyArr P t m e] [hs : TyI P t s bb z] [he : TyI P e es eb ez] {parts : List (Nat × Operand)} {vs : List (Nat × Value)} {res : List Value} (hv : evalP env parts = some vs) (hf : bindN (fillL (fun i => some (i * es, es)) z vs) = some res) :
    OpVal P D w0 env l ⟨dst, .build t parts.toArray, ty, pos, after, g⟩ (.agg res.toArray) := ov_buildA hv (bindN_eq hf)
theorem on_buildSliceN {t e : TypeId} {s bb m : Nat} {z : List Value} [h : TySlice P t e] [hs : TyI P e s bb z] {parts : List (Nat × Operand)} {vs : List (Nat × Value)} {res : List Value} (hv : evalP env parts = some vs) (hm : Nat.ble (m * s) 16777216 = true) (hf : bindN (fillL (fun i => some (i * s, s)) (zerosL z m) vs) = some res) :
    OpNew P D w0 env l ⟨dst, .buildSlice t m parts.toArray, ty, pos, after, g⟩ (fun b : Nat => .slice (some ⟨b, 0, none⟩) m m) (fun b => blk b e res :: l) := on_buildSlice hv hm (bindN_eq hf)
theorem on_storeN {t et : TypeId} {bb : Nat} {z : List Value} [h : TyI P t 1 bb z] {x y : Operand} {b off : Nat} {cs cs' : List Value} {r : List HProp} {v : Value} (hx : evalO env x = some (.pointer (some ⟨b, off, none⟩))) (hy : evalO env y = some v) [hp : PickB l b et cs r] (ho : Nat.blt off cs.length = true) (h1 : v.oneCell' = true) (hn : normL (cs.set off v) = some cs') :
    OpNew P D w0 env l ⟨dst, .store t x y, ty, pos, after, g⟩ (fun _ : Unit => undef) (fun _ => blk b et cs' :: r) := by
  have := on_store (P := P) (D := D) (w0 := w0) (l := l) (t := t) (dst := dst) (ty := ty) (pos := pos) (after := after) (g := g) hx hy (hp := hp) (by simpa [Nat.blt_eq] using ho) h1
  rwa [normL_eq hn] at this
def allOne : List Value → Bool
  | [] => true
  | v :: r => v.oneCell' && allOne r
theorem allOne_eq : ∀ {l : List Value}, allOne l = true → ∀ v ∈ l, v.oneCell' = true
  | [], _, _, h => by simp at h
  | u :: r, h, v, hv => by
    simp only [allOne, Bool.and_eq_true] at h
    rcases List.mem_cons.1 hv with rfl | hv
    · exact h.1
    · exact allOne_eq h.2 v hv
theorem on_storeGN {t et : TypeId} {s bb : Nat} {z : List Value} [h : TyI P t s bb z] {x y : Operand} {b off : Nat} {cs vs cs' : List Value} {r : List HProp} (hx : evalO env x = some (.pointer (some ⟨b, off, none⟩))) (hy : evalO env y = some (.agg vs.toArray)) [hp : PickB l b et cs r] (hl : vs.length = s) (ho : Nat.ble (off + vs.length) cs.length = true) (h1 : allOne vs = true) (hn : normL (setSeg cs off vs) = some cs') :
    OpNew P D w0 env l ⟨dst, .store t x y, ty, pos, after, g⟩ (fun _ : Unit => undef) (fun _ => blk b et cs' :: r) := by
  have := on_storeG (P := P) (D := D) (w0 := w0) (l := l) (t := t) (dst := dst) (ty := ty) (pos := pos) (after := after) (g := g) hx hy (hp := hp) hl (by simpa using ho) (allOne_eq h1)
  rwa [normL_eq hn] at this
end
section
variable {P : Program} {Q : Post} {D : Nat → Prop} {w0 : World} {n : Nat} {env : Slots} {l : List HProp} {ops : Array Oper} {r : List Oper} {o : Oper}
theorem hl_u0 {v : Value} {l' : List HProp} (h : OpNew P D w0 env l o (fun _ : Unit => v) (fun _ => l')) (hd : o.dst = none) (hg : o.guard = none) (k : HL P ops Q D w0 n env l' r) : HL P ops Q D w0 n env l (o :: r) := hl_new0 h hd hg fun _ => k
theorem hl_u {d : Nat} {v : Value} {l' : List HProp} (h : OpNew P D w0 env l o (fun _ : Unit => v) (fun _ => l')) (hd : o.dst = some d) (hg : o.guard = none) (hn : Nat.blt d n = true) (k : HL P ops Q D w0 n ((d, v) :: env) l' r) : HL P ops Q D w0 n env l (o :: r) := hl_new h hd hg hn fun _ => k
theorem ho_u0 {i fuel : Nat} {listed : Array Bool} {L0 : List HProp} {rl : List Oper} (hi : opAt rl i = some o) {v : Value} {l' : List HProp} (h : OpNew P D w0 env l o (fun _ : Unit => v) (fun _ => l')) (hd : o.dst = none) (hg : guardIs rl.toArray env o.guard = some true) (hE : Ent l' L0) (k : HA P rl.toArray Q D w0 n env l' L0 fuel (listed.setIfInBounds i true)) : HO P rl.toArray Q D w0 n env l L0 i fuel listed := ho_new0 hi h hd hg (fun _ => hE) fun _ => k
theorem ho_u {i fuel d : Nat} {listed : Array Bool} {L0 : List HProp} {rl : List Oper} (hi : opAt rl i = some o) {v : Value} {l' : List HProp} (h : OpNew P D w0 env l o (fun _ : Unit => v) (fun _ => l')) (hd : o.dst = some d) (hg : guardIs rl.toArray env o.guard = some true) (hn : Nat.blt d n = true) (hE : Ent l' L0) (k : HA P rl.toArray Q D w0 n ((d, v) :: env) l' L0 fuel (listed.setIfInBounds i true)) : HO P rl.toArray Q D w0 n env l L0 i fuel listed := ho_new hi h hd hg hn (fun _ => hE) fun _ => k
/-- A call that answers one thing and leaves one list. -/
theorem hl_c {d f : Nat} {args : List Operand} {ats : Array TypeId} {ty : TypeId} {pos : String} {after : Array Edge} {vs : List Value} {v : Value} {l' : List HProp} (hcf : ∀ args w, (callFunc f args).run P w = .ok (.enter f args) w)
    (hv : evalL env args = some vs) (hn : Nat.blt d n = true) (hc : ∀ w, Own D w0 w l → Calls P f vs.toArray w fun e w' => e = .returned v ∧ Own D w0 w' l')
    (k : HL P ops Q D w0 n ((d, v) :: env) l' r) : HL P ops Q D w0 n env l (⟨some d, .call ⟨.value (.func f), args.toArray, ats⟩, ty, pos, after, none⟩ :: r) :=
  hl_call (σ := Unit) (v := fun _ => v) (l' := fun _ => l') hcf hv hn (fun w H => (hc w H).mono fun e w' h => ⟨(), h⟩) fun _ => k
theorem hl_c0 {f : Nat} {args : List Operand} {ats : Array TypeId} {ty : TypeId} {pos : String} {after : Array Edge} {vs : List Value} {v : Value} {l' : List HProp} (hcf : ∀ args w, (callFunc f args).run P w = .ok (.enter f args) w)
    (hv : evalL env args = some vs) (hc : ∀ w, Own D w0 w l → Calls P f vs.toArray w fun e w' => e = .returned v ∧ Own D w0 w' l')
    (k : HL P ops Q D w0 n env l' r) : HL P ops Q D w0 n env l (⟨none, .call ⟨.value (.func f), args.toArray, ats⟩, ty, pos, after, none⟩ :: r) :=
  hl_call0 (σ := Unit) (v := fun _ => v) (l' := fun _ => l') hcf hv (fun w H => (hc w H).mono fun e w' h => ⟨(), h⟩) fun _ => k
end
/-- A call that owns nothing of the caller's: its contract in its own world. -/
theorem Own.call0 {P : Program} {f : Nat} {args : Array Value} {D : Nat → Prop} {w0 w : World} {l post : List HProp} {v : Value} (H : Own D w0 w l)
    (hc : ∀ D', (∀ A, Old D w0 A → Old D' w A) → (∀ B : HProp, (∀ h, stars l h → (∀ A, Old D w0 A → ∃ h1, A h1 ∧ Hsub h1 h) → B h) → Old D' w B) → Own D' w w [] → Calls P f args w fun e w' => e = .returned v ∧ Own D' w w' post) :
    Calls P f args w fun e w' => e = .returned v ∧ Own D w0 w' (post ++ l) := by
  obtain ⟨D', H2, h1, h2, hback⟩ := Own.split (pre := []) (l := l) H
  exact (hc D' h1 h2 H2).mono fun e w' ⟨he, H3⟩ => ⟨he, hback _ _ H3⟩
/-- A call that owns a part of it. -/
theorem Own.call {P : Program} {f : Nat} {args : Array Value} {D : Nat → Prop} {w0 w : World} {pre l post : List HProp} {v : Value} (H : Own D w0 w (pre ++ l))
    (hc : ∀ D', (∀ A, Old D w0 A → Old D' w A) → (∀ B : HProp, (∀ h, stars l h → (∀ A, Old D w0 A → ∃ h1, A h1 ∧ Hsub h1 h) → B h) → Old D' w B) → Own D' w w pre → Calls P f args w fun e w' => e = .returned v ∧ Own D' w w' post) :
    Calls P f args w fun e w' => e = .returned v ∧ Own D w0 w' (post ++ l) := by
  obtain ⟨D', H2, h1, h2, hback⟩ := Own.split H
  exact (hc D' h1 h2 H2).mono fun e w' ⟨he, H3⟩ => ⟨he, hback _ _ H3⟩
/-- The same, what the call leaves hanging on what it found. -/
theorem Own.callX {P : Program} {f : Nat} {args : Array Value} {D : Nat → Prop} {w0 w : World} {pre l : List HProp} {σ : Type} {post : σ → List HProp} {v : σ → Value} (H : Own D w0 w (pre ++ l))
    (hc : ∀ D', (∀ A, Old D w0 A → Old D' w A) → (∀ B : HProp, (∀ h, stars l h → (∀ A, Old D w0 A → ∃ h1, A h1 ∧ Hsub h1 h) → B h) → Old D' w B) → Own D' w w pre → Calls P f args w fun e w' => ∃ s, e = .returned (v s) ∧ Own D' w w' (post s)) :
    Calls P f args w fun e w' => ∃ s, e = .returned (v s) ∧ Own D w0 w' (post s ++ l) := by
  obtain ⟨D', H2, h1, h2, hback⟩ := Own.split H
  exact (hc D' h1 h2 H2).mono fun e w' ⟨s, he, H3⟩ => ⟨s, he, hback _ _ H3⟩
/-- A slice of old memory whose elements have one cell each, element by element. -/
theorem Old.openE {α : Type} [Rep α] {D : Nat → Prop} {w0 : World} {xs : List α} {v : Value} (hz : Rep.sz α = 1) (k : Old D w0 (Rep.rep xs [v])) :
    ∃ A cap, v = .slice A xs.length cap ∧ xs.length ≤ cap ∧ cap ≤ 9223372036854775807 ∧ ∀ i (hi : i < xs.length), isA A ∧ ∃ u, Old D w0 (Rep.rep xs[i] [u]) ∧ ∀ l, CellIs D w0 l (ab A) (ao A + i * 1) u := by
  obtain ⟨A, cap, hs, rfl, h1, h2, HS, hl, _, hel⟩ := k.open
  rw [hz] at hl hel
  refine ⟨A, cap, rfl, h1, h2, fun i hi => ?_⟩
  have hlk : i < hs.length := by omega
  have e1 : (hs.drop (i * 1)).take 1 = [hs[i]] := by rw [Nat.mul_one, List.drop_eq_getElem_cons hlk]; rfl
  have hu := hel i _ (List.getElem?_eq_getElem hi)
  rw [e1] at hu
  refine ⟨HS.isA (by rintro rfl; simp at hlk), hs[i], hu, fun l => ?_⟩
  rw [Nat.mul_one]
  exact (SrcIs.old HS).cell (List.getElem?_eq_getElem hlk)
theorem Old.openBE {D : Nat → Prop} {w0 : World} {xs : List UInt8} {v : Value} (k : Old D w0 (Rep.rep xs [v])) :
    ∃ A cap, v = .slice A xs.length cap ∧ xs.length ≤ cap ∧ cap ≤ 9223372036854775807 ∧ OldS D w0 A (xs.map u8v) ∧ ∀ i (hi : i < xs.length), isA A ∧ ∀ l, CellIs D w0 l (ab A) (ao A + i * 1) (.int .u8 (xs[i].toNat : Int)) := by
  obtain ⟨A, cap, rfl, h1, h2, HS⟩ := k.openB
  refine ⟨A, cap, rfl, h1, h2, HS, fun i hi => ⟨HS.isA (by intro h; simp at h; subst h; simp at hi), fun l => ?_⟩⟩
  rw [Nat.mul_one]
  exact (SrcIs.old HS).cell (i := i) (by simp [hi, u8v])
/-! What can be read of assertions that hold apart. -/
theorem stars_rdB {l r : List HProp} {b : Nat} {t : TypeId} {cs : List Value} [h : PickB l b t cs r] {x : Heap} (hs : stars l x) : rdA (some ⟨b, 0, none⟩) cs x := by
  obtain ⟨h1, h2, ⟨fr, p, _⟩, _, _, s1, _⟩ := stars_perm h.out hs
  exact .inr ⟨b, 0, t, _, fr, rfl, s1 _ _ p, fun i v hv => by simpa using hv⟩
theorem stars_row {l r : List HProp} {A : Option Addr} {t : TypeId} {sz n cap : Nat} {cs : List Value} [h : Pick l (row A t sz n cap cs) r] {x : Heap} (hs : stars l x) : rdA A cs x ∧ cs.length = n * sz ∧ n ≤ cap ∧ cap ≤ 9223372036854775807 := by
  obtain ⟨h1, h2, p, _, _, s1, _⟩ := stars_perm h.out hs
  exact ⟨rdA_mono s1 (row_rd _ p), p.1, p.2.1, p.2.2.1⟩
theorem stars_pick {l r : List HProp} {A : HProp} [h : Pick l A r] {x : Heap} (hs : stars l x) : ∃ h1, A h1 ∧ Hsub h1 x := by
  obtain ⟨h1, h2, p, _, _, s1, _⟩ := stars_perm h.out hs
  exact ⟨h1, p, s1⟩
theorem rep_bytes {l r : List HProp} {b : Nat} {t : TypeId} {cs : List Value} [h : PickB l b t cs r] {x : Heap} (hs : stars l x) (xs : List UInt8) (hcs : cs = xs.map u8v) (hl : xs.length ≤ 9223372036854775807) : Rep.rep xs [.slice (some ⟨b, 0, none⟩) xs.length xs.length] x :=
  ⟨some ⟨b, 0, none⟩, xs.length, rfl, Nat.le_refl _, hl, cs, repL_bytes.2 hcs, stars_rdB hs⟩
theorem rep_lits {α : Type} [Rep α] {l r : List HProp} {b : Nat} {t : TypeId} {cs : List Value} [h : PickB l b t cs r] {x : Heap} (hs : stars l x) (xs : List α) (hr : repL xs cs x) (hl : xs.length ≤ 9223372036854775807) : Rep.rep xs [.slice (some ⟨b, 0, none⟩) xs.length xs.length] x :=
  ⟨some ⟨b, 0, none⟩, xs.length, rfl, Nat.le_refl _, hl, cs, hr, stars_rdB hs⟩
theorem rep_nil {α : Type} [Rep α] {x : Heap} : Rep.rep ([] : List α) [.slice none 0 0] x := ⟨none, 0, rfl, Nat.le_refl _, Nat.zero_le _, [], rfl, .inl rfl⟩
theorem Old.nil {α : Type} [Rep α] {D : Nat → Prop} {w0 : World} : Old D w0 (Rep.rep ([] : List α) [.slice none 0 0]) := ⟨fun _ => none, (fun b o e => by cases e), rep_nil⟩
section
variable {P : Program} {D : Nat → Prop} {w0 : World} {env : Slots} {l : List HProp} {dst : Option Tmp} {ty : TypeId} {pos : String} {after : Array Edge} {g : Option (Nat × Bool)} {x y : Operand} {t t' : TypeId} {k : IntKind} {i j : Int}
theorem ov_eqlT (hx : evalO env x = some (.int k i)) (hy : evalO env y = some (.int k j)) (h : i = j) : OpVal P D w0 env l ⟨dst, .binOp .eql t x y t', ty, pos, after, g⟩ (.bool true) := by
  have := ov_eql (P := P) (D := D) (w0 := w0) (l := l) (dst := dst) (ty := ty) (pos := pos) (after := after) (g := g) (t := t) (t' := t') hx hy
  rwa [decide_eq_true h] at this
theorem ov_eqlF (hx : evalO env x = some (.int k i)) (hy : evalO env y = some (.int k j)) (h : ¬ i = j) : OpVal P D w0 env l ⟨dst, .binOp .eql t x y t', ty, pos, after, g⟩ (.bool false) := by
  have := ov_eql (P := P) (D := D) (w0 := w0) (l := l) (dst := dst) (ty := ty) (pos := pos) (after := after) (g := g) (t := t) (t' := t') hx hy
  rwa [decide_eq_false h] at this
theorem ov_neqT (hx : evalO env x = some (.int k i)) (hy : evalO env y = some (.int k j)) (h : ¬ i = j) : OpVal P D w0 env l ⟨dst, .binOp .neq t x y t', ty, pos, after, g⟩ (.bool true) := by
  have := ov_neq (P := P) (D := D) (w0 := w0) (l := l) (dst := dst) (ty := ty) (pos := pos) (after := after) (g := g) (t := t) (t' := t') hx hy
  rwa [decide_eq_true h] at this
theorem ov_neqF (hx : evalO env x = some (.int k i)) (hy : evalO env y = some (.int k j)) (h : i = j) : OpVal P D w0 env l ⟨dst, .binOp .neq t x y t', ty, pos, after, g⟩ (.bool false) := by
  have := ov_neq (P := P) (D := D) (w0 := w0) (l := l) (dst := dst) (ty := ty) (pos := pos) (after := after) (g := g) (t := t) (t' := t') hx hy
  rwa [decide_eq_false (by simpa using h)] at this
end
theorem rep_old {α : Type} [Rep α] {D : Nat → Prop} {w0 : World} {h : Heap} (ho : ∀ A, Old D w0 A → ∃ h1, A h1 ∧ Hsub h1 h) {x : α} {cs : List Value} (k : Old D w0 (Rep.rep x cs)) : Rep.rep x cs h := by
  obtain ⟨h1, a, b⟩ := ho _ k
  exact Rep.mono b a
/-- Parts of a slice. -/
theorem rdA_cut {A : Option Addr} {cs : List Value} {h : Heap} (k : rdA A cs h) (cap lo n sz : Nat) (hn : (lo + n) * sz ≤ cs.length) (hc : lo + n ≤ cap) : rdA (if cap = lo then A else A.map (·.add (lo * sz))) ((cs.drop (lo * sz)).take (n * sz)) h := by
  rcases k with k | ⟨b, off, t, cs0, fr, rfl, h1, h2⟩
  · left; subst k; simp
  · by_cases h0 : n * sz = 0
    · left; rw [h0]; simp
    · have : ¬ cap = lo := by
        intro e
        have : n = 0 := by omega
        subst this; simp at h0
      rw [if_neg this]
      refine .inr ⟨b, off + lo * sz, t, cs0, fr, by simp [add_lit'], h1, fun i v hv => ?_⟩
      have hi : i < n * sz := by
        rcases Nat.lt_or_ge i (n * sz) with h | h
        · exact h
        · rw [List.getElem?_eq_none (by rw [List.length_take]; omega)] at hv; cases hv
      rw [List.getElem?_take_of_lt hi, List.getElem?_drop] at hv
      have := h2 _ _ hv
      rw [Nat.add_assoc]; exact this
theorem rep_cut {α : Type} [Rep α] {xs : List α} {A : Option Addr} {n cap : Nat} {h : Heap} (k : Rep.rep xs [.slice A n cap] h) (lo hi : Nat) (h1 : lo ≤ hi) (h2 : hi ≤ xs.length) : Rep.rep ((xs.drop lo).take (hi - lo)) [.slice (if cap = lo then A else A.map (·.add (lo * Rep.sz α))) (hi - lo) (cap - lo)] h := by
  obtain ⟨A', cap', e, k1, k2, ecs, k3, k4⟩ := k
  simp only [List.cons.injEq, Value.slice.injEq, and_true] at e
  obtain ⟨rfl, rfl, rfl⟩ := e
  have hl : ((xs.drop lo).take (hi - lo)).length = hi - lo := by rw [List.length_take, List.length_drop]; omega
  have hlen := repL_len k3
  refine ⟨_, cap - lo, by rw [hl], by omega, by omega, (ecs.drop (lo * Rep.sz α)).take ((hi - lo) * Rep.sz α), repL_take (repL_drop k3 lo) (hi - lo), rdA_cut k4 cap lo (hi - lo) (Rep.sz α) ?_ (by omega)⟩
  rw [hlen]; exact Nat.mul_le_mul_right _ (by omega)
section
variable {P : Program} {D : Nat → Prop} {w0 : World} {env : Slots} {l : List HProp} {dst : Option Tmp} {ty : TypeId} {pos : String} {after : Array Edge} {g : Option (Nat × Bool)}
/-- An array's element at a constant. -/
theorem ov_idxPc {t e : TypeId} {n s bb : Nat} {z : List Value} [h : TyArr P t n e] [hs : TyI P e s bb z] {x i : Operand} {b off m : Nat} {k : IntKind} {j : Int} (hx : evalO env x = some (.pointer (some ⟨b, off, none⟩))) (hi : evalO env i = some (.int k j)) (hj : j = (j.toNat : Int)) (hn : Nat.blt j.toNat n = true) (hm : off + j.toNat * s = m) :
    OpVal P D w0 env l ⟨dst, .indexAddr t x i, ty, pos, after, g⟩ (.pointer (some ⟨b, m, none⟩)) := by
  subst hm
  exact ov_idxP hx hi j.toNat hj (by simpa [Nat.blt_eq] using hn)
/-- A slice's element at a constant. -/
theorem ov_idxSc {t e : TypeId} {s bb : Nat} {z : List Value} [h : TySlice P t e] [hs : TyI P e s bb z] {x i : Operand} {A : Option Addr} {n cap : Nat} {k : IntKind} {j : Int} (hx : evalO env x = some (.slice A n cap)) (hA : isA A) (hi : evalO env i = some (.int k j)) (hj : j = (j.toNat : Int)) (hn : j.toNat < n) :
    OpVal P D w0 env l ⟨dst, .indexAddr t x i, ty, pos, after, g⟩ (.pointer (some ⟨ab A, ao A + j.toNat * s, none⟩)) := ov_idxS hx hA hi j.toNat hj hn
end
end Slk
