import Derived.Test.YtijaldfiaeafgaaSnp8
import Derived.Test.YtijaldfiaeafgaaSnpA
import Derived.Test.YtijaldfiaeafgaaJou1
set_option linter.unusedVariables false
set_option linter.unusedSimpArgs false
namespace Go.Proofs.Ytijaldfiaeafgaa
open Slk
/-! ### A Save that is cut off (plain) -/
theorem look_congr {S S' : List Sec} {at_ : Nat} (h : ∀ j, at_ ≤ j → j < at_ + 16 → S'[j]? = S[j]?) : lookS S' at_ = lookS S at_ := by
  have : (S'.drop at_).take 16 = (S.drop at_).take 16 := by
    refine List.ext_getElem? fun i => ?_
    rw [List.getElem?_take, List.getElem?_take]
    split
    · rw [List.getElem?_drop, List.getElem?_drop, h _ (by omega) (by omega)]
    · rfl
  unfold lookS
  rw [this]
theorem look_head {S : List Sec} {at_ : Nat} {e : EntT} (h : lookS S at_ = some e) : ∃ s, S[at_]? = some s ∧ headOf e.2.1 s := by
  unfold lookS at h
  rcases hT : (S.drop at_).take 16 with _ | ⟨s, r⟩
  · rw [hT] at h; cases h
  · rw [hT] at h
    rcases hd : decS (s :: r) with _ | ⟨x, n⟩
    · rw [hd] at h; cases h
    · rw [hd] at h
      dsimp only at h
      split at h
      · injection h with h; subst h
        refine ⟨s, ?_, (decS_head hd).1⟩
        have : ((S.drop at_).take 16)[0]? = (s :: r)[0]? := by rw [hT]
        rw [List.getElem?_take_of_lt (by decide), List.getElem?_drop] at this
        simpa using this
      · cases h
structure TJ (S : List Sec) (i : Nat) : Prop where
  ti : TI S i
  hd : ∀ s, S[16 * (i % 2)]? = some s → s[0] = 87 → numAt s 2 4 < i
  nw : (i = 0 ∧ S = List.replicate 32 zeroSec) ∨ ∃ x, lookS S (16 * ((i + 1) % 2)) = some (snE i x)
theorem TJ.zero : TJ (List.replicate 32 zeroSec) 0 := ⟨TI.zero, (fun s hs h87 => by
  rw [List.getElem?_replicate] at hs
  split at hs
  · injection hs with hs; subst hs; exact absurd h87 (by decide)
  · cases hs), .inl ⟨rfl, rfl⟩⟩
theorem TJ.next {S : List Sec} {i : Nat} {xs : List UInt8} (h : TJ S i) (hi : i ≤ 100) (hx : xs.length ≤ 993) : TJ (saveS S (i + 1) xs) (i + 1) ∧ loadE (saveS S (i + 1) xs) = (i + 1, xs, 0) := by
  have hl := h.ti.len
  have hat := h.ti.at_
  obtain ⟨h1, h2⟩ := h.ti.next hi hx
  refine ⟨⟨h1, fun s hs h87 => ?_, .inr ⟨xs, ?_⟩⟩, h2⟩
  · rw [save_get (by omega) hx (at2 := 16 * ((i + 1) % 2)) (by omega) (by omega) (by omega)] at hs
    rcases h.nw with ⟨rfl, rfl⟩ | ⟨x, hn⟩
    · rw [List.getElem?_replicate] at hs
      split at hs
      · injection hs with hs; subst hs; exact absurd h87 (by decide)
      · cases hs
    · obtain ⟨s', hs', hh⟩ := look_head hn
      rw [hs'] at hs
      injection hs with hs; subst hs
      rw [hh.2]; exact Nat.lt_succ_self i
  · rw [show 16 * ((i + 1 + 1) % 2) = atS S by rw [hat]; omega]
    exact save_look (by omega) (by omega) hx
theorem torn_same {S S' : List Sec} {i : Nat} (h : TJ S i) (h0 : S'[16 * (i % 2)]? = S[16 * (i % 2)]?) (hoth : ∀ j, (j < 16 * (i % 2) ∨ 16 * (i % 2) + 16 ≤ j) → S'[j]? = S[j]?) : loadE S' = loadE S := by
  have hl := h.ti.len
  have ho : lookS S' (16 * ((i + 1) % 2)) = lookS S (16 * ((i + 1) % 2)) := look_congr fun j h1 h2 => hoth j (by omega)
  have hlt : ∀ T : List Sec, T[16 * (i % 2)]? = S[16 * (i % 2)]? → ∀ e, lookS T (16 * (i % 2)) = some e → e.2.1 < i := fun T hT e he => by
    obtain ⟨s, hs, hh⟩ := look_head he
    rw [hT] at hs
    have := h.hd s hs hh.1
    rw [hh.2] at this; exact this
  have a1 := hlt S rfl
  have a2 := hlt S' h0
  suffices hn : newS S' = newS S by unfold loadE; rw [hn]
  have hm : i % 2 = 0 ∨ i % 2 = 1 := by omega
  rcases h.nw with ⟨rfl, rfl⟩ | ⟨x, hn⟩
  · have b1 : lookS (List.replicate 32 zeroSec) 0 = none := blank_look (by decide)
    have b2 : lookS S' 0 = none := by
      rcases hb : lookS S' 0 with _ | e
      · rfl
      · exact absurd (a2 e hb) (Nat.not_lt_zero _)
    have ho : lookS S' 16 = lookS (List.replicate 32 zeroSec) 16 := ho
    rw [newS_eq, newS_eq, b1, b2, ho]
  · have key : ∀ T : List Sec, lookS T (16 * ((i + 1) % 2)) = some (snE i x) → (∀ e, lookS T (16 * (i % 2)) = some e → e.2.1 < i) → newS T = some (snE i x, 16 * ((i + 1) % 2)) := fun T t1 t2 => by
      rw [newS_eq]
      rcases hm with hm | hm
      · have hm2 : (i + 1) % 2 = 1 := by omega
        rw [hm2] at t1 ⊢
        rw [hm] at t2
        have t1 : lookS T 16 = some (snE i x) := t1
        rw [t1]
        rcases ho2 : lookS T 0 with _ | e
        · rfl
        · have := t2 e ho2
          show (if e.2.1 < i then _ else _) = _
          rw [if_pos this]
      · have hm2 : (i + 1) % 2 = 0 := by omega
        rw [hm2] at t1 ⊢
        rw [hm] at t2
        have t1 : lookS T 0 = some (snE i x) := t1
        rw [t1]
        rcases ho2 : lookS T 16 with _ | e
        · rfl
        · have := t2 e ho2
          show (if i < e.2.1 then _ else _) = _
          rw [if_neg (by omega)]; rfl
    rw [key S hn a1, key S' (ho.trans hn) a2]
theorem settle_other (kept : Nat → Bool) : ∀ (P : List (Nat × Sec)) (k : Nat) (S : List Sec) (j : Nat), (∀ p ∈ P, p.1 ≠ j) → (settleL kept k S P)[j]? = S[j]?
  | [], _, _, _, _ => rfl
  | p :: r, k, S, j, h => by
    simp only [settleL]
    rw [settle_other kept r (k + 1) _ j (fun q hq => h q (List.mem_cons_of_mem _ hq))]
    split
    · rw [List.getElem?_set_ne (h p (List.mem_cons_self ..))]
    · rfl
theorem PW_in {at_ : Nat} {l : List Sec} {i : Nat} : ∀ p ∈ PW at_ l i, at_ ≤ p.1 ∧ p.1 < at_ + l.length := fun p hp => by
  obtain ⟨⟨x, k⟩, hx, rfl⟩ := List.mem_map.1 hp
  have := List.snd_lt_of_mem_zipIdx hx
  rw [List.length_take] at this
  show at_ ≤ at_ + k ∧ at_ + k < at_ + l.length
  omega
/-- A cut Save, nothing flushed. -/
theorem torn_none {S r : List Sec} {i : Nat} (h : TJ S i) (hr : r.length ≤ 15) (kept : Nat → Bool) : loadE (settleL kept 0 S (PW (16 * (i % 2) + 1) r r.length)) = loadE S := by
  refine torn_same h ?_ fun j hj => ?_
  · exact settle_other _ _ _ _ _ fun p hp => by have := PW_in p hp; omega
  · exact settle_other _ _ _ _ _ fun p hp => by have := PW_in p hp; omega
/-- A cut Save, all but its first sector flushed. -/
theorem torn_half {S r : List Sec} {i : Nat} (h : TJ S i) (hr : r.length ≤ 15) : loadE (putS S (16 * (i % 2) + 1) r) = loadE S := by
  have hl := h.ti.len
  have hm : i % 2 < 2 := Nat.mod_lt _ (by decide)
  refine torn_same h ?_ fun j hj => ?_
  · rw [putS_get (by omega), if_pos (by omega)]
  · rw [putS_get (by omega)]
    rcases hj with hj | hj
    · rw [if_pos (by omega)]
    · rw [if_neg (by omega), if_neg (by omega)]
end Go.Proofs.Ytijaldfiaeafgaa
