import Derived.Test.YtpgpfcplchaleaaCod6
set_option linter.unusedVariables false
set_option linter.unusedSimpArgs false
namespace Go.Proofs.Ytpgpfcplchaleaa
open Slk
/-! ### Bytes tell what was written -/
theorem ofNat8 {a b : Nat} (h : UInt8.ofNat a = UInt8.ofNat b) : a % 256 = b % 256 := by
  have := congrArg UInt8.toNat h
  simpa using this
theorem be1 {n m : Nat} (hn : n < 256) (hm : m < 256) (h : beB n 1 = beB m 1) : n = m := by
  simp only [beB, List.range_succ, List.range_zero, List.nil_append, List.map_cons, List.map_nil, List.cons.injEq, and_true] at h
  have := ofNat8 h
  omega
theorem be2 {n m : Nat} (hn : n < 65536) (hm : m < 65536) (h : beB n 2 = beB m 2) : n = m := by
  have h0 : beB n 2 = [UInt8.ofNat (n / 256), UInt8.ofNat (n / 1)] := rfl
  have h1 : beB m 2 = [UInt8.ofNat (m / 256), UInt8.ofNat (m / 1)] := rfl
  rw [h0, h1] at h
  simp only [List.cons.injEq, and_true] at h
  have a1 := ofNat8 h.1; have a2 := ofNat8 h.2
  omega
theorem be4 {n m : Nat} (hn : n < 4294967296) (hm : m < 4294967296) (h : beB n 4 = beB m 4) : n = m := by
  have h0 : beB n 4 = [UInt8.ofNat (n / 16777216), UInt8.ofNat (n / 65536), UInt8.ofNat (n / 256), UInt8.ofNat (n / 1)] := rfl
  have h1 : beB m 4 = [UInt8.ofNat (m / 16777216), UInt8.ofNat (m / 65536), UInt8.ofNat (m / 256), UInt8.ofNat (m / 1)] := rfl
  rw [h0, h1] at h
  simp only [List.cons.injEq, and_true] at h
  obtain ⟨k1, k2, k3, k4⟩ := h
  have a1 := ofNat8 k1; have a2 := ofNat8 k2; have a3 := ofNat8 k3; have a4 := ofNat8 k4
  omega
theorem be6 {n m : Nat} (hn : n < 281474976710656) (hm : m < 281474976710656) (h : beB n 6 = beB m 6) : n = m := by
  have h0 : beB n 6 = [UInt8.ofNat (n / 1099511627776), UInt8.ofNat (n / 4294967296), UInt8.ofNat (n / 16777216), UInt8.ofNat (n / 65536), UInt8.ofNat (n / 256), UInt8.ofNat (n / 1)] := rfl
  have h1 : beB m 6 = [UInt8.ofNat (m / 1099511627776), UInt8.ofNat (m / 4294967296), UInt8.ofNat (m / 16777216), UInt8.ofNat (m / 65536), UInt8.ofNat (m / 256), UInt8.ofNat (m / 1)] := rfl
  rw [h0, h1] at h
  simp only [List.cons.injEq, and_true] at h
  obtain ⟨k1, k2, k3, k4, k5, k6⟩ := h
  have a1 := ofNat8 k1; have a2 := ofNat8 k2; have a3 := ofNat8 k3; have a4 := ofNat8 k4; have a5 := ofNat8 k5; have a6 := ofNat8 k6
  omega
theorem flat_inj {α : Type} {f : α → List UInt8} {sz : Nat} (hf : ∀ x, (f x).length = sz) {p : α → Prop} (hi : ∀ x y, p x → p y → f x = f y → x = y) : ∀ (l m : List α), l.length = m.length → (∀ x ∈ l, p x) → (∀ x ∈ m, p x) → l.flatMap f = m.flatMap f → l = m
  | [], [], _, _, _, _ => rfl
  | [], _ :: _, h, _, _, _ => by simp at h
  | _ :: _, [], h, _, _, _ => by simp at h
  | x :: r, y :: s, h, hp, hq, e => by
    rw [List.flatMap_cons, List.flatMap_cons] at e
    obtain ⟨e1, e2⟩ := List.append_inj e (by rw [hf, hf])
    rw [hi x y (hp x (by simp)) (hq y (by simp)) e1, flat_inj hf hi r s (by simpa using h) (fun z hz => hp z (by simp [hz])) (fun z hz => hq z (by simp [hz])) e2]
theorem edB_inj (x y : EditC) (hx : goodE x) (hy : goodE y) (h : edB x = edB y) : x = y := by
  obtain ⟨a1, a2, a3, a4, a5, a6, a7⟩ := x
  obtain ⟨b1, b2, b3, b4, b5, b6, b7⟩ := y
  obtain ⟨g1, g2, g3, g4, g5, g6, g7, g8, g9⟩ := hx
  obtain ⟨k1, k2, k3, k4, k5, k6, k7, k8, k9⟩ := hy
  dsimp only at *
  unfold edB at h
  dsimp only at h
  obtain ⟨h, e7⟩ := List.append_inj h (by simp [beB_len])
  obtain ⟨h, e6⟩ := List.append_inj h (by simp [beB_len])
  obtain ⟨h, e5⟩ := List.append_inj h (by simp [beB_len])
  obtain ⟨h, e4⟩ := List.append_inj h (by simp [beB_len])
  obtain ⟨h, e3⟩ := List.append_inj h (by simp [beB_len])
  obtain ⟨e1, e2⟩ := List.append_inj h (by simp [beB_len])
  have f1 := be1 (by omega) (by omega) e1
  have f2 := be1 (by omega) (by omega) e2
  have f3 := be4 (by omega) (by omega) e3
  have f4 := be2 (by omega) (by omega) e4
  have f5 := be1 a5.toNat_lt b5.toNat_lt e5
  have f6 := be1 a6.toNat_lt b6.toNat_lt e6
  have f7 := be6 g9 k9 e7
  rw [show a1 = b1 by omega, show a2 = b2 by omega, show a3 = b3 by omega, show a4 = b4 by omega, UInt8.toNat_inj.1 f5, UInt8.toNat_inj.1 f6, UInt64.toNat_inj.1 f7]
theorem edsB_inj {l m : List EditC} (hl : okEds l) (hm : okEds m) : edsB l = edsB m ↔ l = m := by
  refine ⟨fun h => ?_, fun h => by rw [h]⟩
  unfold edsB at h
  obtain ⟨h1, h2⟩ := List.append_inj h (by simp [beB_len])
  have hc := be1 (by have := hl.1; omega) (by have := hm.1; omega) h1
  refine flat_inj edB_len (p := goodE) edB_inj l m hc (fun x hx => ?_) (fun x hx => ?_) h2
  · obtain ⟨i, hi, rfl⟩ := List.getElem_of_mem hx
    exact hl.2 i hi
  · obtain ⟨i, hi, rfl⟩ := List.getElem_of_mem hx
    exact hm.2 i hi
theorem portB_inj (x y : PortC) (hx : 0 ≤ x.2.2 ∧ x.2.2 ≤ 4094) (hy : 0 ≤ y.2.2 ∧ y.2.2 ≤ 4094) (h : portB x = portB y) : x = y := by
  obtain ⟨a1, a2, a3⟩ := x
  obtain ⟨b1, b2, b3⟩ := y
  dsimp only at *
  unfold portB at h
  dsimp only at h
  obtain ⟨h, e3⟩ := List.append_inj h (by simp [beB_len])
  obtain ⟨e1, e2⟩ := List.append_inj h (by simp [beB_len])
  have f1 := be1 (by split <;> decide) (by split <;> decide) e1
  have f2 := be4 a2.toNat_lt b2.toNat_lt e2
  have f3 := be2 (by omega) (by omega) e3
  have : a1 = b1 := by cases a1 <;> cases b1 <;> simp_all
  rw [this, UInt32.toNat_inj.1 f2, show a3 = b3 by omega]
theorem vlanB_inj (x y : VlanC) (hx : 0 ≤ x.1 ∧ x.1 ≤ 4094) (hy : 0 ≤ y.1 ∧ y.1 ≤ 4094) (h : vlanB x = vlanB y) : x = y := by
  obtain ⟨a1, a2, a3⟩ := x
  obtain ⟨b1, b2, b3⟩ := y
  dsimp only at *
  unfold vlanB at h
  dsimp only at h
  obtain ⟨h, e3⟩ := List.append_inj h (by simp [beB_len])
  obtain ⟨e1, e2⟩ := List.append_inj h (by simp [beB_len])
  have f1 := be2 (by omega) (by omega) e1
  have f2 := be1 a2.toNat_lt b2.toNat_lt e2
  have f3 := be1 a3.toNat_lt b3.toNat_lt e3
  rw [show a1 = b1 by omega, UInt8.toNat_inj.1 f2, UInt8.toNat_inj.1 f3]
theorem statB_inj (x y : StatC) (hx : (0 ≤ x.2.1 ∧ x.2.1 ≤ 4094) ∧ 0 ≤ x.2.2 ∧ x.2.2 < 8 ∧ x.1.toNat < 281474976710656) (hy : (0 ≤ y.2.1 ∧ y.2.1 ≤ 4094) ∧ 0 ≤ y.2.2 ∧ y.2.2 < 8 ∧ y.1.toNat < 281474976710656) (h : statB x = statB y) : x = y := by
  obtain ⟨a1, a2, a3⟩ := x
  obtain ⟨b1, b2, b3⟩ := y
  dsimp only at *
  unfold statB at h
  dsimp only at h
  obtain ⟨h, e3⟩ := List.append_inj h (by simp [beB_len])
  obtain ⟨e1, e2⟩ := List.append_inj h (by simp [beB_len])
  have f1 := be6 hx.2.2.2 hy.2.2.2 e1
  have f2 := be2 (by omega) (by omega) e2
  have f3 := be1 (by omega) (by omega) e3
  rw [UInt64.toNat_inj.1 f1, show a2 = b2 by omega, show a3 = b3 by omega]
theorem cfgB_inj {c d : ConfC} (hc : Wok c) (hd : Wok d) : cfgB c = cfgB d ↔ c = d := by
  refine ⟨fun h => ?_, fun h => by rw [h]⟩
  obtain ⟨c1, c2, c3, c4, c5, c6⟩ := c
  obtain ⟨d1, d2, d3, d4, d5, d6⟩ := d
  obtain ⟨a1, a2, a3, a4, a5, a6, a7, a8, a9⟩ := hc
  obtain ⟨b1, b2, b3, b4, b5, b6, b7, b8, b9⟩ := hd
  dsimp only at *
  unfold cfgB headB at h
  dsimp only at h
  simp only [List.append_assoc] at h
  obtain ⟨e1, h⟩ := List.append_inj h (by simp [beB_len])
  obtain ⟨e2, h⟩ := List.append_inj h (by simp [beB_len])
  obtain ⟨e3, h⟩ := List.append_inj h (by simp [beB_len])
  obtain ⟨e4, h⟩ := List.append_inj h (by simp [beB_len])
  have f4 := be1 (by omega) (by omega) e4
  obtain ⟨e5, h⟩ := List.append_inj h (by rw [flat_len (f := portB) (sz := 7) portB_len, flat_len (f := portB) (sz := 7) portB_len, f4])
  obtain ⟨e6, h⟩ := List.append_inj h (by simp [beB_len])
  have f6 := be1 (by omega) (by omega) e6
  obtain ⟨e7, h⟩ := List.append_inj h (by rw [flat_len (f := vlanB) (sz := 4) vlanB_len, flat_len (f := vlanB) (sz := 4) vlanB_len, f6])
  obtain ⟨e8, e9⟩ := List.append_inj h (by simp [beB_len])
  have f8 := be1 (by omega) (by omega) e8
  have f1 := be2 (by omega) (by omega) e1
  have f2 := be1 (by omega) (by omega) e2
  have f3 := be1 (by omega) (by omega) e3
  have g1 := flat_inj portB_len portB_inj c4 d4 f4 (fun x hx => by obtain ⟨i, hi, rfl⟩ := List.getElem_of_mem hx; exact a7 i hi) (fun x hx => by obtain ⟨i, hi, rfl⟩ := List.getElem_of_mem hx; exact b7 i hi) e5
  have g2 := flat_inj vlanB_len vlanB_inj c5 d5 f6 (fun x hx => by obtain ⟨i, hi, rfl⟩ := List.getElem_of_mem hx; exact a8 i hi) (fun x hx => by obtain ⟨i, hi, rfl⟩ := List.getElem_of_mem hx; exact b8 i hi) e7
  have g3 := flat_inj statB_len statB_inj c6 d6 f8 (fun x hx => by obtain ⟨i, hi, rfl⟩ := List.getElem_of_mem hx; exact a9 i hi) (fun x hx => by obtain ⟨i, hi, rfl⟩ := List.getElem_of_mem hx; exact b9 i hi) e9
  rw [show c1 = d1 by omega, show c2 = d2 by omega, show c3 = d3 by omega, g1, g2, g3]
end Go.Proofs.Ytpgpfcplchaleaa
