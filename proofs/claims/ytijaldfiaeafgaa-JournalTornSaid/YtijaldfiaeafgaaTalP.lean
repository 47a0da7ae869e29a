import Derived.Test.YtijaldfiaeafgaaTal
set_option linter.unusedVariables false
set_option linter.unusedSimpArgs false
namespace Go.Proofs.Ytijaldfiaeafgaa
open Slk
/-! The sums' law in plain numbers. -/
def S8 (xs : List UInt8) : Nat := (xs.map UInt8.toNat).sum
def W8 : List UInt8 → Nat
  | [] => 0
  | x :: r => (r.length + 1) * x.toNat + W8 r
theorem S8_cons (x : UInt8) (r : List UInt8) : S8 (x :: r) = x.toNat + S8 r := by simp [S8]
theorem adds_raw : ∀ (xs : List UInt8) (a b : Nat), adds (a % 65521, b % 65521) xs = ((a + S8 xs) % 65521, (b + xs.length * a + W8 xs) % 65521)
  | [], a, b => by simp [adds, S8, W8]
  | x :: r, a, b => by
    have e2 : addB (a % 65521, b % 65521) x = ((a + x.toNat) % 65521, (b + (a + x.toNat)) % 65521) := by
      unfold addB
      refine Prod.ext ?_ ?_
      · show (a % 65521 + x.toNat) % 65521 = _; omega
      · show (b % 65521 + (a % 65521 + x.toNat) % 65521) % 65521 = _; omega
    have e : adds (a % 65521, b % 65521) (x :: r) = adds (addB (a % 65521, b % 65521) x) r := rfl
    rw [e, e2, adds_raw r, S8_cons, W8, List.length_cons]
    have h1 : r.length * (a + x.toNat) = r.length * a + r.length * x.toNat := Nat.mul_add _ _ _
    have h2 : (r.length + 1) * a = r.length * a + a := by rw [Nat.add_mul, Nat.one_mul]
    have h3 : (r.length + 1) * x.toNat = r.length * x.toNat + x.toNat := by rw [Nat.add_mul, Nat.one_mul]
    rw [h1, h2, h3]
    refine Prod.ext ?_ ?_
    · dsimp only; congr 1; omega
    · dsimp only; congr 1; omega
theorem S8_set : ∀ (xs : List UInt8) (i : Nat) (v : UInt8) (h : i < xs.length), S8 (xs.set i v) + xs[i].toNat = S8 xs + v.toNat
  | x :: r, 0, v, h => by simp only [List.set_cons_zero, S8_cons, List.getElem_cons_zero]; omega
  | x :: r, i + 1, v, h => by
    have := S8_set r i v (by simpa using h)
    simp only [List.set_cons_succ, S8_cons, List.getElem_cons_succ]; omega
theorem W8_set : ∀ (xs : List UInt8) (i : Nat) (v : UInt8) (h : i < xs.length), W8 (xs.set i v) + (xs.length - i) * xs[i].toNat = W8 xs + (xs.length - i) * v.toNat
  | x :: r, 0, v, h => by simp only [List.set_cons_zero, W8, List.getElem_cons_zero, List.length_cons, Nat.sub_zero]; omega
  | x :: r, i + 1, v, h => by
    have := W8_set r i v (by simpa using h)
    simp only [List.set_cons_succ, W8, List.getElem_cons_succ, List.length_cons, List.length_set, Nat.add_sub_add_right]; omega
theorem sumOf_inj {s t : Nat × Nat} (h1 : s.1 < 65521) (h2 : t.1 < 65521) (h : sumOf s = sumOf t) : s = t := by
  unfold sumOf at h
  exact Prod.ext (by omega) (by omega)
theorem Sm_raw (xs : List UInt8) : Sm [xs] = sumOf ((1 + S8 xs) % 65521, (xs.length + W8 xs) % 65521) := by
  have := adds_raw xs 1 0
  show sumOf (adds (1, 0) xs) = _
  rw [show ((1, 0) : Nat × Nat) = (1 % 65521, 0 % 65521) from rfl, this]
  simp
theorem Sm_eq (xs ys : List UInt8) : Sm [xs] = Sm [ys] ↔ (1 + S8 xs) % 65521 = (1 + S8 ys) % 65521 ∧ (xs.length + W8 xs) % 65521 = (ys.length + W8 ys) % 65521 := by
  rw [Sm_raw, Sm_raw]
  constructor
  · intro h
    have := sumOf_inj (Nat.mod_lt _ (by omega)) (Nat.mod_lt _ (by omega)) h
    simpa using this
  · rintro ⟨h1, h2⟩; rw [h1, h2]
theorem Sm_turn (b : List UInt8) (i : Nat) (v : UInt8) (h : i < b.length) : Sm [b.set i v] = Sm [b] ↔ v.toNat = b[i].toNat := by
  rw [Sm_eq]
  have h1 := S8_set b i v h
  have h2 := W8_set b i v h
  have l1 := v.toNat_lt
  have l2 := b[i].toNat_lt
  rw [List.length_set]
  constructor
  · rintro ⟨k, _⟩; omega
  · intro k
    rw [k] at h1 h2
    exact ⟨by omega, by omega⟩
theorem coprime_p : ∀ a, a < 256 → 0 < a → Nat.gcd 65521 a = 1 := by decide +kernel
theorem no_turn (a k : Nat) (ha : a < 256) (hk : k < 65521) (h : 65521 ∣ a * k) : a = 0 ∨ k = 0 := by
  rcases Nat.eq_zero_or_pos a with h0 | h0
  · exact .inl h0
  · right
    have := (Nat.Coprime.dvd_of_dvd_mul_left (k := 65521) (m := a) (n := k) (coprime_p a ha h0) h)
    rcases Nat.eq_zero_or_pos k with h1 | h1
    · exact h1
    · have := Nat.le_of_dvd h1 this; omega
theorem swap_law (n i j x y w w' : Nat) (hi : i < n) (hj : j < n) (hn : n < 65521) (hx : x < 256) (hy : y < 256) (hw : w' + (n - i) * x + (n - j) * y = w + (n - i) * y + (n - j) * x) (h : (n + w') % 65521 = (n + w) % 65521) : x = y ∨ i = j := by
  have hd : ∀ u u' : Nat, u' ≤ u → (n + u') % 65521 = (n + u) % 65521 → 65521 ∣ u - u' := fun u u' hle he => by omega
  have hle : ∀ i j x y w w' : Nat, i < n → j < n → x < 256 → y < 256 → x ≤ y → i ≤ j → w' + (n - i) * x + (n - j) * y = w + (n - i) * y + (n - j) * x → (n + w') % 65521 = (n + w) % 65521 → x = y ∨ i = j := by
    intro i j x y w w' hi hj hx hy hxy hij hw h
    obtain ⟨a, rfl⟩ := Nat.le.dest hxy
    obtain ⟨k, rfl⟩ := Nat.le.dest hij
    obtain ⟨m, hm⟩ := Nat.le.dest (show i + k ≤ n by omega)
    have e1 : n - i = m + k := by omega
    have e2 : n - (i + k) = m := by omega
    rw [e1, e2] at hw
    simp only [Nat.mul_add, Nat.add_mul] at hw
    have e3 : w' = w + k * a := by omega
    have := hd w' w (by omega) h.symm
    rw [e3, Nat.add_sub_cancel_left, Nat.mul_comm] at this
    rcases no_turn a k (by omega) (by omega) this with r | r
    · left; omega
    · right; omega
  rcases Nat.le_total x y with h1 | h1 <;> rcases Nat.le_total i j with h2 | h2
  · exact hle i j x y w w' hi hj hx hy h1 h2 hw h
  · have := hle j i x y w' w hj hi hx hy h1 h2 (by omega) h.symm
    omega
  · have := hle i j y x w' w hi hj hy hx h1 h2 (by omega) h.symm
    omega
  · have := hle j i y x w w' hj hi hy hx h1 h2 (by omega) h
    omega
theorem Sm_swap (b : List UInt8) (i j : Nat) (hi : i < b.length) (hj : j < b.length) (hn : b.length < 65521) : Sm [(b.set i b[j]).set j b[i]] = Sm [b] ↔ b[i].toNat = b[j].toNat := by
  rw [Sm_eq]
  have s1 := S8_set b i b[j] hi
  have s2 := S8_set (b.set i b[j]) j b[i] (by simpa using hj)
  have w1 := W8_set b i b[j] hi
  have w2 := W8_set (b.set i b[j]) j b[i] (by simpa using hj)
  have e : (b.set i b[j])[j]'(by simpa using hj) = b[j] := by
    rw [List.getElem_set]; split <;> simp_all
  rw [e] at s2 w2
  rw [List.length_set] at w2
  rw [List.length_set, List.length_set]
  have l1 := b[i].toNat_lt
  have l2 := b[j].toNat_lt
  constructor
  · rintro ⟨_, k⟩
    have := swap_law b.length i j b[i].toNat b[j].toNat (W8 b) _ hi hj hn l1 l2 (by omega) k
    rcases this with h | h
    · exact h
    · subst h; rfl
  · intro k
    rw [k] at s1 s2 w1 w2
    exact ⟨by omega, by omega⟩
end Go.Proofs.Ytijaldfiaeafgaa
