import Derived.Test.YtijaldfiaeafgaaEntP
set_option linter.unusedVariables false
namespace Go.Proofs.Ytijaldfiaeafgaa
open Slk
def entV (x : EntT) (q : Option Addr × Nat) : List Value := [.int .i64 x.1, .int .u32 x.2.1, .int .u32 x.2.2.1, .slice q.1 x.2.2.2.length q.2]
theorem Decode_some (D : Nat → Prop) (w : World) (v : Value) (S : List Sec) (x : EntT) (n : Nat) (h : decS S = some (x, n)) (HA : Old D w (Rep.rep S [v])) :
    Calls Try.prog 57 #[v] w fun e w' => ∃ q : Option Addr × Nat, e = .returned (.tuple #[.agg (entV x q).toArray, .int .i64 n, .int .i64 0]) ∧ Own D w w' [row q.1 5 1 x.2.2.2.length q.2 (x.2.2.2.map u8v)] :=
  (Decode_spec D w v S HA).mono fun e w' hp => by
    rcases hp with ⟨h1, _⟩ | ⟨x', n', q, h1, he, H'⟩
    · rw [h] at h1; cases h1
    · rw [h] at h1; cases h1; exact ⟨q, he, H'⟩
theorem Decode_none (D : Nat → Prop) (w : World) (v : Value) (S : List Sec) (h : decS S = none) (HA : Old D w (Rep.rep S [v])) :
    Calls Try.prog 57 #[v] w fun e w' => e = .returned (.tuple #[.agg #[.int .i64 0, .int .u32 0, .int .u32 0, .slice none 0 0], .int .i64 0, .int .i64 11]) ∧ Own D w w' [] :=
  (Decode_spec D w v S HA).mono fun e w' hp => by
    rcases hp with ⟨_, he, H'⟩ | ⟨x', n', q, h1, _⟩
    · exact ⟨he, H'⟩
    · rw [h] at h1; cases h1
/-- A byte of a sector of one's own. -/
theorem CellIs.sec {D : Nat → Prop} {w0 : World} {l r : List HProp} {A : Option Addr} {t : TypeId} {n cap : Nat} {S : List Sec} [h : PickR l A t 64 n cap (S.flatMap secC) r] (hA : Slk.isA A) {k j : Nat} (hk : k < S.length) (hj : j < 64) : CellIs D w0 l (ab A) (ao A + k * 64 + j) (.int .u8 ((S[k])[j].toNat : Int)) :=
  (CellsAre.flat (f := secC) (A := A) secC_len hA hk).cell (i := j) (secC_at S[k] hj)
/-- Encode of an entry of the laws. -/
theorem Encode_ent (D : Nat → Prop) (w : World) (e : EntT) (h : okE e) (v : Value) (HA : Old D w (Rep.rep e.2.2.2 [v])) :
    Calls Try.prog 47 #[.agg #[.int .i64 e.1, .int .u32 e.2.1, .int .u32 e.2.2.1, v]] w fun r w' => ∃ q : Option Addr × Nat, r = .returned (.tuple #[.slice q.1 (encE e).length q.2, .int .i64 0]) ∧ Own D w w' [row q.1 34 64 (encE e).length q.2 ((encE e).flatMap secC)] := by
  have hl : (encE e).length = (15 + e.2.2.2.length + 62) / 63 := by rw [encE, encS_len, fullB_length]
  rw [hl]
  exact Encode_ok D w e.1 e.2.1 e.2.2.1 v e.2.2.2 h.1 h.2.1 h.2.2.1 h.2.2.2 HA
end Go.Proofs.Ytijaldfiaeafgaa
