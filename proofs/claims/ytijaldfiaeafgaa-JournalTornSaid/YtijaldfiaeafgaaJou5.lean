import Derived.Test.YtijaldfiaeafgaaJou4
import Derived.Test.YtijaldfiaeafgaaM2
set_option linter.unusedVariables false
set_option linter.unusedSimpArgs false
namespace Go.Proofs.Ytijaldfiaeafgaa
open Slk
theorem JOpen_is (D : Nat → Prop) (w : World) (g : Nat) (S : List Sec) (from_ to_ N : Nat) (T : List Sec) (ep : Nat) (L : List (List UInt8)) (k end_ : Nat) (hE : entsF ep N 0 T = (L, k)) (he : end_ = from_ + k) (hto : to_ ≤ S.length) (hS : S.length ≤ 100000) (hN : from_ + N = to_) (hN0 : 0 < N) (hT : T = (S.drop from_).take N) (H : Own D w w [dsk g S []]) :
    Calls Try.prog 30 #[.pointer (some ⟨g, 0, none⟩), .int .i64 (from_ : Int), .int .i64 (to_ : Int), .int .u32 (ep : Int)] w fun e w' => ∃ jb : Nat, e = .returned (.tuple #[.pointer (some ⟨jb, 0, none⟩), .int .i64 0]) ∧ Own D w w' [jou jb g from_ to_ ep end_ L, dsk g S []] := by
  have h := JOpen_ok D w g S from_ to_ N T ep hto hS hN hN0 hT H
  rw [hE] at h
  subst he
  exact h
theorem Append_is (D : Nat → Prop) (w : World) (jb g from_ to_ ep end_ : Nat) (L ps : List (List UInt8)) (v : Value) (S : List Sec) (x : List UInt8) (n end' : Nat) (L' : List (List UInt8)) (S' : List Sec) (hx : x = ps.flatten) (hn : needM x.length = n) (he : end' = end_ + n) (hL' : L' = L ++ [x]) (hS' : S' = putS S end_ (encE (jouE ep L.length x))) (hle : end_ ≤ to_) (hto : to_ ≤ S.length) (hS : S.length ≤ 100000) (hp : x.length ≤ 4000) (hfit : n ≤ to_ - end_) (hep : ep < 4294967296) (hL : L.length ≤ 1000000) (HA : Old D w (Rep.rep ps [v])) (H : Own D w w [jou jb g from_ to_ ep end_ L, dsk g S []]) :
    Calls Try.prog 31 #[.pointer (some ⟨jb, 0, none⟩), v] w fun e w' => e = .returned (.int .i64 0) ∧ Own D w w' [jou jb g from_ to_ ep end' L', dsk g S' []] := by
  subst he; subst hL'; subst hS'
  exact Append_ok D w jb g from_ to_ ep end_ L ps v S x hx _ rfl n hn hle hto hS hp hfit hep hL HA H
theorem put_region {S l : List Sec} {from_ N at_ : Nat} (h1 : from_ + N ≤ S.length) (h2 : at_ + l.length ≤ N) : ((putS S (from_ + at_) l).drop from_).take N = putS ((S.drop from_).take N) at_ l := by
  have hl : ((S.drop from_).take N).length = N := by rw [List.length_take, List.length_drop]; omega
  refine List.ext_getElem? fun i => ?_
  have hL : (((putS S (from_ + at_) l).drop from_).take N)[i]? = if i < N then (putS S (from_ + at_) l)[from_ + i]? else none := by rw [List.getElem?_take, List.getElem?_drop]
  have hR : ((S.drop from_).take N)[i]? = if i < N then S[from_ + i]? else none := by rw [List.getElem?_take, List.getElem?_drop]
  rw [hL, putS_get (S := (S.drop from_).take N) (by omega), hR, putS_get (S := S) (by omega)]
  by_cases hi : i < N
  · rw [if_pos hi, if_pos hi]
    rcases Nat.lt_or_ge i at_ with h3 | h3
    · rw [if_pos (by omega), if_pos h3]
    rw [if_neg (by omega), if_neg (by omega : ¬ i < at_)]
    rcases Nat.lt_or_ge i (at_ + l.length) with h4 | h4
    · rw [if_pos (by omega), if_pos h4, show from_ + i - (from_ + at_) = i - at_ by omega]
    rw [if_neg (by omega), if_neg (by omega)]
  rw [if_neg hi, if_neg hi, if_neg (by omega), if_neg (by omega)]
theorem blank_region {n from_ N : Nat} (h : from_ + N ≤ n) : ((List.replicate n zeroSec).drop from_).take N = List.replicate N zeroSec := by
  rw [List.drop_replicate, List.take_replicate, Nat.min_eq_left (by omega)]
/-! ### Steps -/
abbrev JStep := Int × List (List UInt8) × UInt32
instance : ReadsAs Try.prog 77 JStep := ReadsAs.structG 0 (by kernel_rfl) rfl (ReadsG.cons 0 (ReadsG.cons 1 (ReadsG.last 2 (by decide))))
theorem jstep_open {D : Nat → Prop} {w0 : World} {x : JStep} {cs : List Value} (k : Old D w0 (Rep.rep x cs)) : ∃ A cap, cs = [.int .i64 x.1, .slice A x.2.1.length cap, .int .u32 x.2.2.toNat] ∧ inI64 x.1 ∧ Old D w0 (Rep.rep x.2.1 [.slice A x.2.1.length cap]) := by
  obtain ⟨h, hh, c1, c2, rfl, ⟨rfl, ia⟩, c3, c4, rfl, hr, k7⟩ := k
  have k7 : c4 = [.int .u32 x.2.2.toNat] := k7
  subst k7
  obtain ⟨A, cap, rfl, hr2⟩ := hr
  exact ⟨A, cap, rfl, ia, h, hh, A, cap, rfl, hr2⟩
def fairJ (l : List JStep) : Prop := l.length ≤ 60 ∧ ∀ x ∈ l, x.2.1.flatten.length ≤ 4500
theorem flat_take_snoc (xss : List (List UInt8)) (k : Nat) (h : k < xss.length) : (xss.take (k + 1)).flatten.length = (xss.take k).flatten.length + xss[k].length := by
  rw [flat_snoc xss k h, List.length_append]
set_option maxHeartbeats 1000000 in
theorem fair4_spec (D : Nat → Prop) (w : World) (v : Value) (l : List JStep) (HA : Old D w (Rep.rep l [v])) :
    Calls Try.prog 35 #[v] w fun e w' => ∃ b : { b : Bool // b = true → fairJ l }, e = .returned (.bool b.1) ∧ Own D w w' [] := by
  obtain ⟨A, cap, rfl, hc1, hc2, hel⟩ := HA.openX (by decide)
  refine hc_enter (vs := [.slice A l.length cap]) Try.func35 rfl _ Try.ntmps35 rfl (Own.start D w) ?_
  simp only [argSlots, Nat.zero_add]
  refine hc_seq <| hc_region <| hl_v (ov_assign rfl) rfl <| hl_nil <| hx_then_normal <| hc_seq <| ?_
  refine hc_seq <| hc_region <| hl_v (ov_assign rfl) rfl <| hl_nil <| hx_then_normal <| hc_block <| ?_
  refine hc_loops1 (σ := Nat) [0] rfl 3 (fun i => .int .i64 i) (fun i => i ≤ l.length ∧ ∀ x ∈ l.take i, x.2.1.flatten.length ≤ 4500) (fun i => l.length - i) (0) (⟨Nat.zero_le _, by simp⟩) rfl ?_
  rintro i ⟨hi, hok⟩ K1 hK1
  refine hc_seq <| hc_seq <| hc_region <| hl_v (ov_move rfl) rfl <| hl_v (ov_move rfl) rfl <| hl_v (by first | exact ov_len rfl | exact ov_lenS rfl) rfl <| ?_
  refine hl_v (ov_lss rfl rfl) rfl <| hl_nil <| hx_then_normal <| ?_
  refine hc_cond rfl (fun hlt => ?_) (fun hlt => ?_)
  · have hlt : i < l.length := by omega
    obtain ⟨hA, cs, hx, hcs⟩ := hel i hlt
    obtain ⟨B, capB, rfl, _, hu⟩ := jstep_open hx
    have hcl := hcs 1 _ rfl
    rw [show Rep.sz JStep = 3 from rfl] at hcl
    have hsn := List.take_succ_eq_append_getElem hlt
    obtain ⟨ps, hps⟩ : ∃ ps, ps = l[i].2.1 := ⟨_, rfl⟩
    rw [← hps] at hcl hu
    obtain ⟨_, _, e9, hb1, hb2, helB⟩ := hu.openX (by decide)
    simp only [Value.slice.injEq] at e9
    obtain ⟨rfl, _, rfl⟩ := e9
    refine hc_skip <| hx_then_normal <| hc_seq <| hc_block <| hc_seq <| hc_region <| ?_
    refine hl_v (ov_assign rfl) rfl <| hl_nil <| hx_then_normal <| hc_seq <| hc_region <| hl_v (ov_assign rfl) rfl <| ?_
    refine hl_nil <| hx_then_normal <| hc_block <| ?_
    refine hc_loops2 (σ := Nat) [0, 3] rfl 5 (fun k => .int .i64 (k : Int)) 4 (fun k => .int .i64 (((ps.take k).flatten.length : Nat) : Int)) (fun k => k ≤ ps.length ∧ (ps.take k).flatten.length ≤ 4500) (fun k => ps.length - k) (0) (⟨Nat.zero_le _, by simp⟩) rfl rfl ?_
    rintro k ⟨hk, hn⟩ K2 hK2
    refine hc_seq <| hc_seq <| hc_region <| hl_v (ov_move rfl) rfl <| hl_v (ov_move rfl) rfl <| hl_v (ov_move rfl) rfl <| ?_
    refine hl_v (ov_idxS rfl (by assumption) rfl _ rfl (by omega)) rfl <| hl_v (ov_fieldA rfl) rfl <| hl_v (by first | exact ov_load rfl (by assumption) | exact ov_load rfl (hcl _) | exact ov_load rfl (hcl2 _) | exact ov_load rfl (hcl3 _) | exact ov_load rfl (CellIs.blk rfl)) rfl <| ?_
    refine hl_v (by first | exact ov_len rfl | exact ov_lenS rfl) rfl <| ?_
    refine hl_v (ov_lss rfl rfl) rfl <| hl_nil <| hx_then_normal <| ?_
    refine hc_cond rfl (fun hlt2 => ?_) (fun hlt2 => ?_)
    · have hlt2 : k < ps.length := by omega
      obtain ⟨hB, cs2, hx2, hcs2⟩ := helB k hlt2
      obtain ⟨C, capC, rfl, _⟩ := bytes_open hx2
      have hcl2 : ∀ l', CellIs D w l' (ab B) (ao B + k * 1) (.slice C ps[k].length capC) := fun l' => hcs2 0 _ rfl l'
      have hf := flat_take_snoc ps k hlt2
      obtain ⟨m, hm⟩ : ∃ m, m = min ps[k].length 5000 := ⟨_, rfl⟩
      refine hc_skip <| hx_then_normal <| hc_seq <| hc_block <| hc_seq <| hc_region <| ?_
      refine hl_v (ov_move rfl) rfl <| hl_v (ov_move rfl) rfl <| hl_v (ov_move rfl) rfl <| hl_v (ov_idxS rfl (by assumption) rfl _ rfl (by omega)) rfl <| hl_v (ov_fieldA rfl) rfl <| hl_v (by first | exact ov_load rfl (by assumption) | exact ov_load rfl (hcl _) | exact ov_load rfl (hcl2 _) | exact ov_load rfl (hcl3 _) | exact ov_load rfl (CellIs.blk rfl)) rfl <| ?_
      refine hl_v (ov_move rfl) rfl <| ?_
      refine hl_v (ov_idxS rfl hB rfl k rfl hlt2) rfl ?_
      refine hl_v (by first | exact ov_load rfl (by assumption) | exact ov_load rfl (hcl _) | exact ov_load rfl (hcl2 _) | exact ov_load rfl (hcl3 _) | exact ov_load rfl (CellIs.blk rfl)) rfl <| ?_
      refine hl_v (by first | exact ov_len rfl | exact ov_lenS rfl) rfl <| ?_
      refine hl_v (ov_min (m := (m : Int)) rfl rfl (by rw [hm]; split <;> omega)) rfl ?_
      refine hl_v (ov_add rfl rfl (by first | exact wrap_i64 (by omega) | rfl)) rfl <| ?_
      refine hl_v (ov_assign rfl) rfl <| hl_nil <| hx_then_normal <| hc_seq <| hc_region <| hl_v (ov_move rfl) rfl <| ?_
      refine hl_v (ov_gtr rfl rfl) rfl <| hl_v (ov_move rfl) rfl <| ?_
      refine hl_part (t := 36) rfl (fun hbig => ?_) (fun hbig => ?_)
      · refine hl_off rfl rfl rfl rfl rfl rfl <| hl_off rfl rfl rfl rfl rfl rfl <| hl_v (ov_pickT rfl rfl) rfl <| hl_nil <| hx_then_normal <| hc_cond_true rfl <| ?_
        refine hc_seq <| hc_region <| hl_v (ov_assign rfl) rfl <| hl_nil <| hx_then_normal <| hc_ret <| ?_
        refine hx_block_ret <| hx_then_ret <| hx_then_ret <| hx_block_ret <| hx_block_ret <| hx_then_ret <| ?_
        refine hx_then_ret <| hx_block_ret <| hx_then_ret <| ?_
        exact results_1 (.inr rfl) rfl rfl fun w' H' => ⟨⟨false, fun h => by cases h⟩, rfl, H'⟩
      have hmk : m = ps[k].length := by omega
      have e8 : (((ps.take k).flatten.length : Nat) : Int) + (m : Int) = (((ps.take (k + 1)).flatten.length : Nat) : Int) := by rw [hf]; omega
      rw [e8]
      refine hl_on rfl rfl <| hl_v (ov_move rfl) rfl <| hl_on rfl rfl <| hl_v (ov_gtr rfl rfl) rfl <| hl_v (ov_pickF rfl rfl) rfl <| hl_nil <| hx_then_normal <| ?_
      refine hc_cond rfl (fun hmany => ?_) (fun hmany => ?_)
      · refine hc_seq <| hc_region <| hl_v (ov_assign rfl) rfl <| hl_nil <| hx_then_normal <| hc_ret <| ?_
        refine hx_block_ret <| hx_then_ret <| hx_then_ret <| hx_block_ret <| hx_block_ret <| hx_then_ret <| ?_
        refine hx_then_ret <| hx_block_ret <| hx_then_ret <| ?_
        exact results_1 (.inr rfl) rfl rfl fun w' H' => ⟨⟨false, fun h => by cases h⟩, rfl, H'⟩
      have hn2 : (ps.take (k + 1)).flatten.length ≤ 4500 := by rw [hf]; omega
      refine hc_skip <| hx_block_normal <| hx_then_normal <| hc_region <| hl_v (ov_move rfl) rfl <| hl_v (ov_add rfl rfl (by first | exact wrap_i64 (by omega) | rfl)) rfl <| ?_
      refine hl_v (ov_assign rfl) rfl <| hl_nil <| ?_
      refine hx_next hK2 (k + 1) (⟨hlt2, hn2⟩) (by omega) (by repeat (first | exact Slots.sub_nil _ | refine Slots.sub_cons rfl ?_)) (by first | assumption | exact Ent.refl _ | exact Ent.nil _ | (repeat (first | exact Ent.refl _ | exact Ent.nil _ | refine Ent.pick ?_)))
    have hkl : k = ps.length := by omega
    subst hkl
    rw [List.take_length] at hn
    have hok' : ∀ x ∈ l.take (i + 1), x.2.1.flatten.length ≤ 4500 := fun x hx => by
      rw [hsn] at hx
      rcases List.mem_append.1 hx with h | h
      · exact hok x h
      · simp only [List.mem_singleton] at h
        subst h; rw [← hps]; exact hn
    refine hc_exit <| hx_then_exit <| hx_then_exit <| hx_block_out <| hx_block_normal <| hx_then_normal <| ?_
    refine hc_region <| hl_v (ov_move rfl) rfl <| hl_v (ov_add rfl rfl (by first | exact wrap_i64 (by omega) | rfl)) rfl <| ?_
    refine hl_v (ov_assign rfl) rfl <| hl_nil <| ?_
    refine hx_next hK1 (i + 1) (⟨hlt, hok'⟩) (by omega) (by repeat (first | exact Slots.sub_nil _ | refine Slots.sub_cons rfl ?_)) (by first | assumption | exact Ent.refl _ | exact Ent.nil _ | (repeat (first | exact Ent.refl _ | exact Ent.nil _ | refine Ent.pick ?_)))
  have : i = l.length := by omega
  subst this
  rw [List.take_length] at hok
  refine hc_exit <| hx_then_exit <| hx_then_exit <| hx_block_out <| hx_then_normal <| hc_seq <| ?_
  refine hc_region <| hl_v (ov_move rfl) rfl <| hl_v (by first | exact ov_len rfl | exact ov_lenS rfl) rfl <| ?_
  refine hl_v (ov_leq rfl rfl) rfl <| hl_v (ov_assign rfl) rfl <| hl_nil <| hx_then_normal <| hc_ret <| ?_
  exact results_1 (.inr rfl) rfl rfl fun w' H' => ⟨⟨_, fun h => ⟨by have := of_decide_eq_true h; omega, hok⟩⟩, rfl, H'⟩
end Go.Proofs.Ytijaldfiaeafgaa
