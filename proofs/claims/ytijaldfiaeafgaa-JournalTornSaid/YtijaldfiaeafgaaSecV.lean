import Derived.Test.YtijaldfiaeafgaaM2
import Derived.Test.YtijaldfiaeafgaaM2
set_option linter.unusedVariables false
set_option linter.unusedSimpArgs false
namespace Go.Proofs.Ytijaldfiaeafgaa
open Slk
abbrev Sec := Vector UInt8 64
/-- A sector's cells. -/
def secC (s : Sec) : List Value := s.toList.map u8v
@[simp] theorem secC_len (s : Sec) : (secC s).length = 64 := by simp [secC]
theorem secC_one (s : Sec) : ∀ v ∈ secC s, v.oneCell' = true := u8_one _
theorem secC_inj {s t : Sec} : secC s = secC t ↔ s = t := by
  unfold secC
  rw [u8v_inj]
  exact ⟨fun h => Vector.toList_inj.1 h, fun h => by rw [h]⟩
def zeroSec : Sec := Vector.replicate 64 0
theorem secC_zero : secC zeroSec = List.replicate 64 (.int .u8 0) := by simp [secC, zeroSec, u8v]
def modN (k : Int) (n : Nat) : Nat := (k % (n : Int)).toNat
theorem modN_lt (k : Int) {n : Nat} (h : 0 < n) : modN k n < n := by
  unfold modN
  have := Int.emod_nonneg k (show (n : Int) ≠ 0 by omega)
  have := Int.emod_lt_of_pos k (show (0 : Int) < n by omega)
  omega
theorem secC_at (s : Sec) {j : Nat} (h : j < 64) : (secC s)[j]? = some (u8v s[j]) := by
  unfold secC
  rw [List.getElem?_map, Vector.getElem?_toList, Vector.getElem?_eq_getElem h]; rfl
theorem secC_ok (s : Sec) : (cellsOk (List.replicate 64 (.i .u8)) (secC s)).isSome = true := by
  have := cellsOk_u8 s.toList
  rw [Vector.length_toList] at this
  exact this
section
variable {D : Nat → Prop} {w0 : World} {env : Slots} {l : List HProp} {dst : Option Tmp} {ty : TypeId} {pos : String} {after : Array Edge} {g : Option (Nat × Bool)} {x y : Operand} {t' : TypeId} {s t : Sec}
theorem ov_eqlSec (hx : evalO env x = some (.agg (secC s).toArray)) (hy : evalO env y = some (.agg (secC t).toArray)) : OpVal Try.prog D w0 env l ⟨dst, .binOp .eql 34 x y t', ty, pos, after, g⟩ (.bool (decide (s = t))) := ov_eqlG hx hy (secC_ok s) (secC_ok t) secC_inj
theorem ov_neqSec (hx : evalO env x = some (.agg (secC s).toArray)) (hy : evalO env y = some (.agg (secC t).toArray)) : OpVal Try.prog D w0 env l ⟨dst, .binOp .neq 34 x y t', ty, pos, after, g⟩ (.bool (decide (¬ s = t))) := ov_neqG hx hy (secC_ok s) (secC_ok t) secC_inj
end
end Go.Proofs.Ytijaldfiaeafgaa
