import Derived.Test.YtijaldfiaeafgaaSnp4
set_option linter.unusedVariables false
set_option linter.unusedSimpArgs false
namespace Go.Proofs.Ytijaldfiaeafgaa
open Slk
theorem dec_first {s : Sec} {r : List Sec} (h : s[0] ≠ 87) : decS (s :: r) = none := by
  unfold decS; exact if_neg (fun hh => h (UInt8.toNat_inj.1 hh.1))
theorem look_none {S : List Sec} {at_ : Nat} {s : Sec} (h : S[at_]? = some s) (hs : s[0] ≠ 87) : lookS S at_ = none := by
  obtain ⟨hl, rfl⟩ := List.getElem?_eq_some_iff.1 h
  unfold lookS
  rw [List.drop_eq_getElem_cons hl, List.take_succ_cons, dec_first hs]
theorem look_put {S : List Sec} {at_ : Nat} {e : EntT} (hok : okE e) (h1 : e.1 = 2) (h2 : e.2.2.1 = 0) (hl : (encE e).length ≤ 16) (hS : at_ + 16 ≤ S.length) : lookS (putS S at_ (encE e)) at_ = some e := by
  have : ((putS S at_ (encE e)).drop at_).take 16 = encE e ++ (S.drop (at_ + (encE e).length)).take (16 - (encE e).length) := by
    unfold putS
    rw [List.append_assoc, List.drop_left' (by rw [List.length_take]; omega), List.take_append, List.take_of_length_le hl]
  unfold lookS
  rw [this, decS_enc e hok]
  exact if_pos ⟨h1, h2⟩
theorem look_other {S : List Sec} {at_ at2 : Nat} {l : List Sec} (h : at_ + l.length ≤ S.length) (h1 : at2 + 16 ≤ at_ ∨ at_ + l.length ≤ at2) : lookS (putS S at_ l) at2 = lookS S at2 := by
  have : ((putS S at_ l).drop at2).take 16 = (S.drop at2).take 16 := by
    refine List.ext_getElem? fun i => ?_
    rw [List.getElem?_take, List.getElem?_take]
    split
    · rw [List.getElem?_drop, List.getElem?_drop, putS_get h]
      rcases h1 with h1 | h1
      · rw [if_pos (by omega)]
      · rw [if_neg (by omega), if_neg (by omega)]
    · rfl
  unfold lookS
  rw [this]
theorem encE_sn {a : Nat} {xs : List UInt8} (hx : xs.length ≤ 993) : (encE (snE a xs)).length ≤ 16 ∧ 1 ≤ (encE (snE a xs)).length := by
  rw [encE, encS_len, fullB_length]
  show (15 + xs.length + 62) / 63 ≤ 16 ∧ 1 ≤ (15 + xs.length + 62) / 63
  omega
theorem snE_ok {a : Nat} {xs : List UInt8} (ha : a < 4294967296) (hx : xs.length ≤ 993) : okE (snE a xs) := ⟨show 2 < 256 by decide, ha, show 0 < 4294967296 by decide, show xs.length ≤ 4000 by omega⟩
section
variable {S : List Sec} {a : Nat} {xs : List UInt8}
theorem save_len (hS : 32 ≤ S.length) (hx : xs.length ≤ 993) : (saveS S a xs).length = S.length := by
  have := atS_or S
  have := (encE_sn (a := a) hx).1
  exact putS_len (by omega)
theorem save_look (hS : 32 ≤ S.length) (ha : a < 4294967296) (hx : xs.length ≤ 993) : lookS (saveS S a xs) (atS S) = some (snE a xs) := by
  have := atS_or S
  exact look_put (snE_ok ha hx) rfl rfl (encE_sn hx).1 (by omega)
theorem save_other (hS : 32 ≤ S.length) (hx : xs.length ≤ 993) {at2 : Nat} (h2 : at2 = 0 ∨ at2 = 16) (hne : at2 ≠ atS S) : lookS (saveS S a xs) at2 = lookS S at2 := by
  have := atS_or S
  have := (encE_sn (a := a) hx).1
  exact look_other (by omega) (by omega)
theorem save_get (hS : 32 ≤ S.length) (hx : xs.length ≤ 993) {at2 i : Nat} (h2 : at2 = 0 ∨ at2 = 16) (hne : at2 ≠ atS S) (hi : at2 ≤ i ∧ i < at2 + 16) : (saveS S a xs)[i]? = S[i]? := by
  have := atS_or S
  have := (encE_sn (a := a) hx).1
  unfold saveS
  rw [putS_get (by omega)]
  rcases Nat.lt_or_ge i (atS S) with h | h
  · rw [if_pos h]
  · rw [if_neg (by omega), if_neg (by omega)]
theorem save_head (hS : 32 ≤ S.length) (hx : xs.length ≤ 993) : ∃ s : Sec, (saveS S a xs)[atS S]? = some s ∧ s[0] = 87 := by
  have h1 := atS_or S
  have h2 := encE_sn (a := a) hx
  obtain ⟨r, hr⟩ := encS_cons (fullB 2 a 0 xs) (by rw [fullB_length]; omega)
  have hr : encE (snE a xs) = secOf (fullB 2 a 0 xs) 0 :: r := hr
  refine ⟨secOf (fullB 2 a 0 xs) 0, ?_, secOf_mark _ 0⟩
  unfold saveS
  rw [putS_get (by omega), if_neg (by omega), if_pos (by omega), Nat.sub_self, hr]; rfl
end
theorem newS_eq (S : List Sec) : newS S = pickS (pickS none 0 (lookS S 0)) 16 (lookS S 16) := rfl
theorem blank_look {n at_ : Nat} (h : at_ < n) : lookS (List.replicate n zeroSec) at_ = none :=
  look_none (s := zeroSec) (by rw [List.getElem?_replicate, if_pos h]) (by decide)
theorem blank_new {n : Nat} (h : 32 ≤ n) : newS (List.replicate n zeroSec) = none := by
  rw [newS_eq, blank_look (by omega), blank_look (by omega)]; rfl
theorem atS_none {S : List Sec} (h : newS S = none) : atS S = 0 := by unfold atS; rw [h]
theorem atS_some {S : List Sec} {y : EntT × Nat} (h : newS S = some y) : atS S = if y.2 = 0 then 16 else 0 := by unfold atS; rw [h]
theorem loadE_none {S : List Sec} (h : newS S = none) : loadE S = (0, [], 13) := by unfold loadE; rw [h]
theorem loadE_some {S : List Sec} {y : EntT × Nat} (h : newS S = some y) : loadE S = (y.1.2.1, y.1.2.2.2, 0) := by unfold loadE; rw [h]
theorem Load_is (D : Nat → Prop) (w : World) (g : Nat) (S : List Sec) (a : Nat) (xs : List UInt8) (er : Int) (hL : loadE S = (a, xs, er)) (hS : 32 ≤ S.length) (H : Own D w w [dsk g S []]) :
    Calls Try.prog 15 #[.pointer (some ⟨g, 0, none⟩)] w fun e w' => ∃ q : Option Addr × Nat, e = .returned (.tuple #[.int .u32 a, .slice q.1 xs.length q.2, .int .i64 er]) ∧ Own D w w' [dsk g S [], row q.1 5 1 xs.length q.2 (xs.map u8v)] := by
  have h := Load_spec D w g S hS H
  rw [hL] at h
  exact h
/-- Two saves on a blank disk. -/
theorem two_saves {n x y : Nat} {a b : List UInt8} (hn : 32 ≤ n) (hx : x < 4294967296) (hy : y < 4294967296) (ha : a.length ≤ 993) (hb : b.length ≤ 993) {S1 S2 : List Sec} (h1 : S1 = saveS (List.replicate n zeroSec) x a) (h2 : S2 = saveS S1 y b) :
    S1.length = n ∧ S2.length = n ∧ newS S2 = (if x < y then some (snE y b, 16) else some (snE x a, 0)) ∧ ∃ s : Sec, S2[16]? = some s ∧ s[0] = 87 := by
  have hl0 : (List.replicate n zeroSec).length = n := List.length_replicate
  have hat0 := atS_none (blank_new hn)
  have hl1 : S1.length = n := by rw [h1, save_len (by omega) ha, hl0]
  have k0 : lookS S1 0 = some (snE x a) := by rw [h1]; have := save_look (S := List.replicate n zeroSec) (by omega) hx ha; rwa [hat0] at this
  have k1 : lookS S1 16 = none := by rw [h1, save_other (by omega) ha (.inr rfl) (by rw [hat0]; decide), blank_look (by omega)]
  have hn1 : newS S1 = some (snE x a, 0) := by rw [newS_eq, k0, k1]; rfl
  have hat1 : atS S1 = 16 := by rw [atS_some hn1]; rfl
  have m1 : lookS S2 16 = some (snE y b) := by rw [h2]; have := save_look (S := S1) (by omega) hy hb; rwa [hat1] at this
  have m0 : lookS S2 0 = some (snE x a) := by rw [h2, save_other (by omega) hb (.inl rfl) (by rw [hat1]; decide), k0]
  refine ⟨hl1, by rw [h2, save_len (by omega) hb, hl1], ?_, ?_⟩
  · rw [newS_eq, m0, m1]; rfl
  · have := save_head (S := S1) (a := y) (xs := b) (by omega) hb
    rw [hat1, ← h2] at this; exact this
end Go.Proofs.Ytijaldfiaeafgaa
