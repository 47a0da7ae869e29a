import Derived.Test.YtijaldfiaeafgaaRJo2
import Derived.Test.YtijaldfiaeafgaaRSec3
import Derived.Test.YtijaldfiaeafgaaJou6
set_option linter.unusedVariables false
set_option linter.unusedSimpArgs false
namespace Go.Proofs.Ytijaldfiaeafgaa
open Slk
theorem decS_small {l : List Sec} {e : EntT} {n : Nat} (h : decS l = some (e, n)) : e.2.2.2.length ≤ 4000 := by
  cases l with
  | nil => cases h
  | cons s r =>
    have h' : (if s[0].toNat = 87 ∧ needM (numAt s 10 2) ≠ 0 ∧ needM (numAt s 10 2) ≤ (s :: r).length ∧ encE (candE (s :: r) s) = (s :: r).take (needM (numAt s 10 2)) then some (candE (s :: r) s, needM (numAt s 10 2)) else none) = some (e, n) := h
    by_cases hh : s[0].toNat = 87 ∧ needM (numAt s 10 2) ≠ 0 ∧ needM (numAt s 10 2) ≤ (s :: r).length ∧ encE (candE (s :: r) s) = (s :: r).take (needM (numAt s 10 2))
    · rw [if_pos hh] at h'
      injection h' with h'
      injection h' with h1 h2
      subst h1
      have hn := hh.2.1
      have h40 : numAt s 10 2 ≤ 4000 := by
        rcases Nat.lt_or_ge 4000 (numAt s 10 2) with h | h
        · exact absurd (by unfold needM; rw [if_pos h]) hn
        · exact h
      show ((bodyS _).drop 11 |>.take _).length ≤ 4000
      rw [List.length_take]; omega
    · rw [if_neg hh] at h'; cases h'
theorem ents_facts (ep : Nat) : ∀ (f seq : Nat) (l : List Sec), (entsF ep f seq l).2 ≤ l.length ∧ (entsF ep f seq l).1.length ≤ (entsF ep f seq l).2 ∧ ∀ x ∈ (entsF ep f seq l).1, x.length ≤ 4000
  | 0, seq, l => ⟨Nat.zero_le _, Nat.le_refl _, fun x hx => by cases hx⟩
  | f + 1, seq, l => by
    rw [entsF]
    rcases hd : decS l with _ | ⟨e, n⟩
    · exact ⟨Nat.zero_le _, Nat.le_refl _, fun x hx => by cases hx⟩
    · dsimp only
      split
      · obtain ⟨h1, h2, h3⟩ := ents_facts ep f (seq + 1) (l.drop n)
        have hn : 1 ≤ n ∧ n ≤ l.length := by
          cases l with
          | nil => cases hd
          | cons s r => exact (decS_head hd).2
        rw [List.length_drop] at h1
        refine ⟨by dsimp only; omega, by dsimp only [List.length_cons]; omega, fun x hx => ?_⟩
        rcases List.mem_cons.1 hx with rfl | hx
        · exact decS_small hd
        · exact h3 x hx
      · exact ⟨Nat.zero_le _, Nat.le_refl _, fun x hx => by cases hx⟩
theorem ROpen_is (D : Nat → Prop) (w : World) (g : Nat) (S : List Sec) (from_ to_ N : Nat) (T : List Sec) (ep : Nat) (L : List (List UInt8)) (k end_ : Nat) (hE : entsF ep N 0 T = (L, k)) (he : end_ = from_ + k) (hto : to_ ≤ S.length) (hS : S.length ≤ 100000) (hN : from_ + N = to_) (hN0 : 0 < N) (hT : T = (S.drop from_).take N) (H : Own D w w [rdsk g S []]) :
    Calls Try.prog 37 #[.pointer (some ⟨g, 0, none⟩), .int .i64 (from_ : Int), .int .i64 (to_ : Int), .int .u32 (ep : Int)] w fun e w' => ∃ jb : Nat, e = .returned (.tuple #[.pointer (some ⟨jb, 0, none⟩), .int .i64 0]) ∧ Own D w w' [rjou jb g from_ to_ ep end_ L, rdsk g S []] := by
  have h := ROpen_ok D w g S from_ to_ N T ep hto hS hN hN0 hT H
  rw [hE] at h
  subst he
  exact h
theorem RRoom_b (D : Nat → Prop) (w : World) (jb g from_ to_ ep end_ n : Nat) (q : Option Addr × Nat) (hle : end_ ≤ to_) (hto : to_ ≤ 100000) (H : Own D w w [rjouB jb g from_ to_ ep end_ n q]) :
    Calls Try.prog 42 #[.pointer (some ⟨jb, 0, none⟩)] w fun e w' => e = .returned (.int .i64 ((to_ - end_ : Nat) : Int)) ∧ Own D w w' [rjouB jb g from_ to_ ep end_ n q] := by
  refine hc_enter (vs := [.pointer (some ⟨jb, 0, none⟩)]) Try.func42 rfl _ Try.ntmps42 rfl H ?_
  simp only [argSlots, Nat.zero_add]
  refine hc_seq <| hc_region <| hl_v (ov_assign rfl) rfl <| hl_nil <| hx_then_normal <| hc_seq <| ?_
  refine hc_quiet mixed (by kernel_rfl) <| hq_v (ov_move rfl) rfl <| hq_v (ov_nil rfl) rfl <| hq_v (ov_fieldA rfl) rfl <| hq_v (ov_load rfl (CellIs.blk rfl)) rfl <| hq_v (ov_move rfl) rfl <| ?_
  refine hq_v (ov_nil rfl) rfl <| hq_v (ov_fieldA rfl) rfl <| hq_v (ov_load rfl (CellIs.blk rfl)) rfl <| ?_
  refine hq_v (ov_sub (m := ((to_ - end_ : Nat) : Int)) rfl rfl ((wrap_i64 (by omega)).trans (by omega))) rfl ?_
  refine hq_v (ov_assign rfl) rfl <| hq_nil <| hx_then_normal <| hc_ret <| ?_
  exact results_1 (.inr rfl) rfl rfl fun w' H' => ⟨rfl, H'⟩
theorem joined_spec (D : Nat → Prop) (w : World) (v : Value) (ps : List (List UInt8)) (hp : ps.flatten.length ≤ 1000000) (HA : Old D w (Rep.rep ps [v])) :
    Calls Try.prog 39 #[v] w fun e w' => ∃ q : Option Addr × Nat, e = .returned (.slice q.1 ps.flatten.length q.2) ∧ Own D w w' [row q.1 5 1 ps.flatten.length q.2 (ps.flatten.map u8v)] := by
  obtain ⟨A, cap, rfl, hc1, hc2, hel⟩ := HA.openX (by decide)
  refine hc_enter (vs := [.slice A ps.length cap]) Try.func39 rfl _ Try.ntmps39 rfl (Own.start D w) ?_
  simp only [argSlots, Nat.zero_add]
  refine hc_seq <| hc_region <| hl_v (ov_assign rfl) rfl <| hl_nil <| hx_then_normal <| hc_seq <| ?_
  refine hc_region <| hl_v (ov_assign rfl) rfl <| hl_nil <| hx_then_normal <| hc_seq <| hc_seq <| ?_
  refine hc_region <| hl_v (ov_assign rfl) rfl <| hl_nil <| hx_then_normal <| hc_block <| ?_
  refine hc_loopK2 (σ := Nat × Option Addr × Nat) [0] rfl 4 (fun s => .int .i64 (s.1 : Int)) 3 (fun s => .slice s.2.1 (ps.take s.1).flatten.length s.2.2) (fun s => [row s.2.1 5 1 (ps.take s.1).flatten.length s.2.2 ((ps.take s.1).flatten.map u8v)]) (fun s => s.1 ≤ ps.length) (fun s => ps.length - s.1) ((0, none, 0)) (Nat.zero_le _) rfl rfl (Ent.nil_row _ _) ?_
  rintro ⟨i, q⟩ hi K1 hK1
  dsimp only at hi ⊢
  have hle := flat_le ps i
  refine hc_seq <| hc_seq <| hc_region <| hl_v (ov_move rfl) rfl <| hl_v (ov_move rfl) rfl <| hl_v (by first | exact ov_len rfl | exact ov_lenS rfl) rfl <| ?_
  refine hl_v (ov_lss rfl rfl) rfl <| hl_nil <| hx_then_normal <| ?_
  refine hc_cond rfl (fun h => ?_) (fun h => ?_)
  · have hlt : i < ps.length := by omega
    obtain ⟨hA, cs, hxo, hcs⟩ := hel i hlt
    obtain ⟨B, cb, rfl, hxo⟩ := bytes_open hxo
    obtain ⟨_, _, e9, _, _, HB⟩ := hxo.openB
    simp only [Value.slice.injEq] at e9
    obtain ⟨rfl, _, rfl⟩ := e9
    have hcell : ∀ l', CellIs D w l' (ab A) (ao A + i * 1) (.slice B ps[i].length cb) := fun l' => hcs 0 _ rfl l'
    have hf := flat_snoc ps i hlt
    have hfl := flat_take_snoc ps i hlt
    have hle2 := flat_le ps (i + 1)
    refine hc_skip <| hx_then_normal <| hc_seq <| hc_block <| hc_region <| hl_v (ov_move rfl) rfl <| ?_
    refine hl_v (ov_move rfl) rfl <| hl_v (ov_move rfl) rfl <| ?_
    refine hl_v (ov_idxS rfl hA rfl i rfl hlt) rfl ?_
    refine hl_v (ov_load rfl (hcell _)) rfl ?_
    refine hl_new (on_appendR (A := q.1) (news := ps[i].map u8v) rfl rfl (SrcIs.old HB) (by simp) (u8_one _) (by decide) (by omega)) rfl rfl rfl (fun q2 => ?_)
    rw [← hfl, show (ps.take i).flatten.map u8v ++ ps[i].map u8v = (ps.take (i + 1)).flatten.map u8v by rw [hf, List.map_append]]
    refine hl_v (ov_assign rfl) rfl <| hl_nil <| hx_block_normal <| hx_then_normal <| hc_region <| hl_v (ov_move rfl) rfl <| ?_
    refine hl_v (ov_add rfl rfl (by first | exact wrap_i64 (by omega) | rfl)) rfl <| ?_
    refine hl_v (ov_assign rfl) rfl <| hl_nil <| ?_
    refine hx_next hK1 ((i + 1, q2)) (hlt) (by omega) (by repeat (first | exact Slots.sub_nil _ | refine Slots.sub_cons rfl ?_)) (by first | assumption | exact Ent.refl _ | exact Ent.nil _ | (repeat (first | exact Ent.refl _ | exact Ent.nil _ | refine Ent.pick ?_)))
  have hil : i = ps.length := by omega
  rw [hil, List.take_length]
  refine hc_exit <| hx_then_exit <| hx_then_exit <| hx_block_out <| hx_then_normal <| hc_seq <| ?_
  refine hc_region <| hl_v (ov_move rfl) rfl <| hl_v (ov_assign rfl) rfl <| hl_nil <| hx_then_normal <| hc_ret <| ?_
  exact results_1 (.inr rfl) rfl rfl fun w' H' => ⟨q, rfl, H'⟩
instance : ReadsAs Try.prog 83 (Vector Int 3) := ReadsAs.arr (by kernel_rfl)
theorem three_open {D : Nat → Prop} {w0 : World} {x : Vector Int 3} {cs : List Value} (k : Old D w0 (Rep.rep x cs)) : ∃ a b c : Int, cs = [.int .i64 a, .int .i64 b, .int .i64 c] ∧ inI64 a ∧ inI64 b ∧ inI64 c := by
  obtain ⟨h, hh, hr⟩ := k
  have hr : repL x.toList cs h := hr
  have hl : x.toList.length = 3 := by simp
  rcases hx : x.toList with _ | ⟨a, _ | ⟨b, _ | ⟨c, _ | ⟨d, r⟩⟩⟩⟩
  · rw [hx] at hl; cases hl
  · rw [hx] at hl; cases hl
  · rw [hx] at hl; cases hl
  · rw [hx] at hr
    obtain ⟨u1, u2, rfl, ⟨rfl, r1⟩, u3, u4, rfl, ⟨rfl, r2⟩, u5, u6, rfl, ⟨rfl, r3⟩, r4⟩ := hr
    have r4 : u6 = [] := r4
    subst r4
    exact ⟨a, b, c, rfl, r1, r2, r3⟩
  rw [hx] at hl; simp at hl
end Go.Proofs.Ytijaldfiaeafgaa
