import Derived.Test.YtpgpfcplchaleaaSlkQ
set_option linter.unusedVariables false
set_option linter.unusedSimpArgs false
namespace Slk
open Go
/-! ### Bits, in Lean's own words -/
theorem wrap_u8_nat (n : Nat) (h : n < 256) : IntKind.u8.wrap (n : Int) = n := wrap_u8 ⟨by omega, by omega⟩
theorem wrap_u32_nat (n : Nat) (h : n < 4294967296) : IntKind.u32.wrap (n : Int) = n := wrap_u32 ⟨by omega, by omega⟩
theorem wrap_u64_nat (n : Nat) (h : n < 18446744073709551616) : IntKind.u64.wrap (n : Int) = n := wrap_u64 ⟨by omega, by omega⟩
section
variable {P : Program} {D : Nat → Prop} {w0 : World} {env : Slots} {l : List HProp} {dst : Option Tmp} {ty : TypeId} {pos : String} {after : Array Edge} {g : Option (Nat × Bool)} {x y : Operand} {t t' : TypeId}
theorem ov_xor_u8 {a b : UInt8} (hx : evalO env x = some (.int .u8 (a.toNat : Int))) (hy : evalO env y = some (.int .u8 (b.toNat : Int))) : OpVal P D w0 env l ⟨dst, .binOp .xor t x y t', ty, pos, after, g⟩ (.int .u8 ((a ^^^ b).toNat : Int)) := ov_xor hx hy (by
  have e (c : UInt8) : BitVec.ofInt 8 (c.toNat : Int) = c.toBitVec := by
    apply BitVec.eq_of_toNat_eq
    rw [BitVec.ofInt_natCast, BitVec.toNat_ofNat]
    exact Nat.mod_eq_of_lt c.toNat_lt
  have e3 : (BitVec.ofInt 8 (a.toNat : Int) ^^^ BitVec.ofInt 8 (b.toNat : Int)).toNat = (a ^^^ b).toNat := by rw [e a, e b]; rfl
  have := (a ^^^ b).toNat_lt
  show IntKind.u8.wrap (((BitVec.ofInt 8 (a.toNat : Int) ^^^ BitVec.ofInt 8 (b.toNat : Int)).toNat : Nat) : Int) = _
  rw [e3]
  exact wrap_u8 ⟨by omega, by omega⟩)
theorem ov_and_u8 {a b : UInt8} (hx : evalO env x = some (.int .u8 (a.toNat : Int))) (hy : evalO env y = some (.int .u8 (b.toNat : Int))) : OpVal P D w0 env l ⟨dst, .binOp .and t x y t', ty, pos, after, g⟩ (.int .u8 ((a &&& b).toNat : Int)) := ov_and hx hy (by
  have e (c : UInt8) : BitVec.ofInt 8 (c.toNat : Int) = c.toBitVec := by
    apply BitVec.eq_of_toNat_eq
    rw [BitVec.ofInt_natCast, BitVec.toNat_ofNat]
    exact Nat.mod_eq_of_lt c.toNat_lt
  have e3 : (BitVec.ofInt 8 (a.toNat : Int) &&& BitVec.ofInt 8 (b.toNat : Int)).toNat = (a &&& b).toNat := by rw [e a, e b]; rfl
  have := (a &&& b).toNat_lt
  show IntKind.u8.wrap (((BitVec.ofInt 8 (a.toNat : Int) &&& BitVec.ofInt 8 (b.toNat : Int)).toNat : Nat) : Int) = _
  rw [e3]
  exact wrap_u8 ⟨by omega, by omega⟩)
theorem ov_or_u8 {a b : UInt8} (hx : evalO env x = some (.int .u8 (a.toNat : Int))) (hy : evalO env y = some (.int .u8 (b.toNat : Int))) : OpVal P D w0 env l ⟨dst, .binOp .or t x y t', ty, pos, after, g⟩ (.int .u8 ((a ||| b).toNat : Int)) := ov_or hx hy (by
  have e (c : UInt8) : BitVec.ofInt 8 (c.toNat : Int) = c.toBitVec := by
    apply BitVec.eq_of_toNat_eq
    rw [BitVec.ofInt_natCast, BitVec.toNat_ofNat]
    exact Nat.mod_eq_of_lt c.toNat_lt
  have e3 : (BitVec.ofInt 8 (a.toNat : Int) ||| BitVec.ofInt 8 (b.toNat : Int)).toNat = (a ||| b).toNat := by rw [e a, e b]; rfl
  have := (a ||| b).toNat_lt
  show IntKind.u8.wrap (((BitVec.ofInt 8 (a.toNat : Int) ||| BitVec.ofInt 8 (b.toNat : Int)).toNat : Nat) : Int) = _
  rw [e3]
  exact wrap_u8 ⟨by omega, by omega⟩)
theorem ov_xor_u16 {a b : UInt16} (hx : evalO env x = some (.int .u16 (a.toNat : Int))) (hy : evalO env y = some (.int .u16 (b.toNat : Int))) : OpVal P D w0 env l ⟨dst, .binOp .xor t x y t', ty, pos, after, g⟩ (.int .u16 ((a ^^^ b).toNat : Int)) := ov_xor hx hy (by
  have e (c : UInt16) : BitVec.ofInt 16 (c.toNat : Int) = c.toBitVec := by
    apply BitVec.eq_of_toNat_eq
    rw [BitVec.ofInt_natCast, BitVec.toNat_ofNat]
    exact Nat.mod_eq_of_lt c.toNat_lt
  have e3 : (BitVec.ofInt 16 (a.toNat : Int) ^^^ BitVec.ofInt 16 (b.toNat : Int)).toNat = (a ^^^ b).toNat := by rw [e a, e b]; rfl
  have := (a ^^^ b).toNat_lt
  show IntKind.u16.wrap (((BitVec.ofInt 16 (a.toNat : Int) ^^^ BitVec.ofInt 16 (b.toNat : Int)).toNat : Nat) : Int) = _
  rw [e3]
  exact wrap_u16 ⟨by omega, by omega⟩)
theorem ov_and_u16 {a b : UInt16} (hx : evalO env x = some (.int .u16 (a.toNat : Int))) (hy : evalO env y = some (.int .u16 (b.toNat : Int))) : OpVal P D w0 env l ⟨dst, .binOp .and t x y t', ty, pos, after, g⟩ (.int .u16 ((a &&& b).toNat : Int)) := ov_and hx hy (by
  have e (c : UInt16) : BitVec.ofInt 16 (c.toNat : Int) = c.toBitVec := by
    apply BitVec.eq_of_toNat_eq
    rw [BitVec.ofInt_natCast, BitVec.toNat_ofNat]
    exact Nat.mod_eq_of_lt c.toNat_lt
  have e3 : (BitVec.ofInt 16 (a.toNat : Int) &&& BitVec.ofInt 16 (b.toNat : Int)).toNat = (a &&& b).toNat := by rw [e a, e b]; rfl
  have := (a &&& b).toNat_lt
  show IntKind.u16.wrap (((BitVec.ofInt 16 (a.toNat : Int) &&& BitVec.ofInt 16 (b.toNat : Int)).toNat : Nat) : Int) = _
  rw [e3]
  exact wrap_u16 ⟨by omega, by omega⟩)
theorem ov_or_u16 {a b : UInt16} (hx : evalO env x = some (.int .u16 (a.toNat : Int))) (hy : evalO env y = some (.int .u16 (b.toNat : Int))) : OpVal P D w0 env l ⟨dst, .binOp .or t x y t', ty, pos, after, g⟩ (.int .u16 ((a ||| b).toNat : Int)) := ov_or hx hy (by
  have e (c : UInt16) : BitVec.ofInt 16 (c.toNat : Int) = c.toBitVec := by
    apply BitVec.eq_of_toNat_eq
    rw [BitVec.ofInt_natCast, BitVec.toNat_ofNat]
    exact Nat.mod_eq_of_lt c.toNat_lt
  have e3 : (BitVec.ofInt 16 (a.toNat : Int) ||| BitVec.ofInt 16 (b.toNat : Int)).toNat = (a ||| b).toNat := by rw [e a, e b]; rfl
  have := (a ||| b).toNat_lt
  show IntKind.u16.wrap (((BitVec.ofInt 16 (a.toNat : Int) ||| BitVec.ofInt 16 (b.toNat : Int)).toNat : Nat) : Int) = _
  rw [e3]
  exact wrap_u16 ⟨by omega, by omega⟩)
theorem ov_xor_u32 {a b : UInt32} (hx : evalO env x = some (.int .u32 (a.toNat : Int))) (hy : evalO env y = some (.int .u32 (b.toNat : Int))) : OpVal P D w0 env l ⟨dst, .binOp .xor t x y t', ty, pos, after, g⟩ (.int .u32 ((a ^^^ b).toNat : Int)) := ov_xor hx hy (by
  have e (c : UInt32) : BitVec.ofInt 32 (c.toNat : Int) = c.toBitVec := by
    apply BitVec.eq_of_toNat_eq
    rw [BitVec.ofInt_natCast, BitVec.toNat_ofNat]
    exact Nat.mod_eq_of_lt c.toNat_lt
  have e3 : (BitVec.ofInt 32 (a.toNat : Int) ^^^ BitVec.ofInt 32 (b.toNat : Int)).toNat = (a ^^^ b).toNat := by rw [e a, e b]; rfl
  have := (a ^^^ b).toNat_lt
  show IntKind.u32.wrap (((BitVec.ofInt 32 (a.toNat : Int) ^^^ BitVec.ofInt 32 (b.toNat : Int)).toNat : Nat) : Int) = _
  rw [e3]
  exact wrap_u32 ⟨by omega, by omega⟩)
theorem ov_and_u32 {a b : UInt32} (hx : evalO env x = some (.int .u32 (a.toNat : Int))) (hy : evalO env y = some (.int .u32 (b.toNat : Int))) : OpVal P D w0 env l ⟨dst, .binOp .and t x y t', ty, pos, after, g⟩ (.int .u32 ((a &&& b).toNat : Int)) := ov_and hx hy (by
  have e (c : UInt32) : BitVec.ofInt 32 (c.toNat : Int) = c.toBitVec := by
    apply BitVec.eq_of_toNat_eq
    rw [BitVec.ofInt_natCast, BitVec.toNat_ofNat]
    exact Nat.mod_eq_of_lt c.toNat_lt
  have e3 : (BitVec.ofInt 32 (a.toNat : Int) &&& BitVec.ofInt 32 (b.toNat : Int)).toNat = (a &&& b).toNat := by rw [e a, e b]; rfl
  have := (a &&& b).toNat_lt
  show IntKind.u32.wrap (((BitVec.ofInt 32 (a.toNat : Int) &&& BitVec.ofInt 32 (b.toNat : Int)).toNat : Nat) : Int) = _
  rw [e3]
  exact wrap_u32 ⟨by omega, by omega⟩)
theorem ov_or_u32 {a b : UInt32} (hx : evalO env x = some (.int .u32 (a.toNat : Int))) (hy : evalO env y = some (.int .u32 (b.toNat : Int))) : OpVal P D w0 env l ⟨dst, .binOp .or t x y t', ty, pos, after, g⟩ (.int .u32 ((a ||| b).toNat : Int)) := ov_or hx hy (by
  have e (c : UInt32) : BitVec.ofInt 32 (c.toNat : Int) = c.toBitVec := by
    apply BitVec.eq_of_toNat_eq
    rw [BitVec.ofInt_natCast, BitVec.toNat_ofNat]
    exact Nat.mod_eq_of_lt c.toNat_lt
  have e3 : (BitVec.ofInt 32 (a.toNat : Int) ||| BitVec.ofInt 32 (b.toNat : Int)).toNat = (a ||| b).toNat := by rw [e a, e b]; rfl
  have := (a ||| b).toNat_lt
  show IntKind.u32.wrap (((BitVec.ofInt 32 (a.toNat : Int) ||| BitVec.ofInt 32 (b.toNat : Int)).toNat : Nat) : Int) = _
  rw [e3]
  exact wrap_u32 ⟨by omega, by omega⟩)
theorem ov_xor_u64 {a b : UInt64} (hx : evalO env x = some (.int .u64 (a.toNat : Int))) (hy : evalO env y = some (.int .u64 (b.toNat : Int))) : OpVal P D w0 env l ⟨dst, .binOp .xor t x y t', ty, pos, after, g⟩ (.int .u64 ((a ^^^ b).toNat : Int)) := ov_xor hx hy (by
  have e (c : UInt64) : BitVec.ofInt 64 (c.toNat : Int) = c.toBitVec := by
    apply BitVec.eq_of_toNat_eq
    rw [BitVec.ofInt_natCast, BitVec.toNat_ofNat]
    exact Nat.mod_eq_of_lt c.toNat_lt
  have e3 : (BitVec.ofInt 64 (a.toNat : Int) ^^^ BitVec.ofInt 64 (b.toNat : Int)).toNat = (a ^^^ b).toNat := by rw [e a, e b]; rfl
  have := (a ^^^ b).toNat_lt
  show IntKind.u64.wrap (((BitVec.ofInt 64 (a.toNat : Int) ^^^ BitVec.ofInt 64 (b.toNat : Int)).toNat : Nat) : Int) = _
  rw [e3]
  exact wrap_u64 ⟨by omega, by omega⟩)
theorem ov_and_u64 {a b : UInt64} (hx : evalO env x = some (.int .u64 (a.toNat : Int))) (hy : evalO env y = some (.int .u64 (b.toNat : Int))) : OpVal P D w0 env l ⟨dst, .binOp .and t x y t', ty, pos, after, g⟩ (.int .u64 ((a &&& b).toNat : Int)) := ov_and hx hy (by
  have e (c : UInt64) : BitVec.ofInt 64 (c.toNat : Int) = c.toBitVec := by
    apply BitVec.eq_of_toNat_eq
    rw [BitVec.ofInt_natCast, BitVec.toNat_ofNat]
    exact Nat.mod_eq_of_lt c.toNat_lt
  have e3 : (BitVec.ofInt 64 (a.toNat : Int) &&& BitVec.ofInt 64 (b.toNat : Int)).toNat = (a &&& b).toNat := by rw [e a, e b]; rfl
  have := (a &&& b).toNat_lt
  show IntKind.u64.wrap (((BitVec.ofInt 64 (a.toNat : Int) &&& BitVec.ofInt 64 (b.toNat : Int)).toNat : Nat) : Int) = _
  rw [e3]
  exact wrap_u64 ⟨by omega, by omega⟩)
theorem ov_or_u64 {a b : UInt64} (hx : evalO env x = some (.int .u64 (a.toNat : Int))) (hy : evalO env y = some (.int .u64 (b.toNat : Int))) : OpVal P D w0 env l ⟨dst, .binOp .or t x y t', ty, pos, after, g⟩ (.int .u64 ((a ||| b).toNat : Int)) := ov_or hx hy (by
  have e (c : UInt64) : BitVec.ofInt 64 (c.toNat : Int) = c.toBitVec := by
    apply BitVec.eq_of_toNat_eq
    rw [BitVec.ofInt_natCast, BitVec.toNat_ofNat]
    exact Nat.mod_eq_of_lt c.toNat_lt
  have e3 : (BitVec.ofInt 64 (a.toNat : Int) ||| BitVec.ofInt 64 (b.toNat : Int)).toNat = (a ||| b).toNat := by rw [e a, e b]; rfl
  have := (a ||| b).toNat_lt
  show IntKind.u64.wrap (((BitVec.ofInt 64 (a.toNat : Int) ||| BitVec.ofInt 64 (b.toNat : Int)).toNat : Nat) : Int) = _
  rw [e3]
  exact wrap_u64 ⟨by omega, by omega⟩)
end
section
variable {P : Program} {D : Nat → Prop} {w0 : World} {env : Slots} {l : List HProp} {dst : Option Tmp} {ty : TypeId} {pos : String} {after : Array Edge} {g : Option (Nat × Bool)} {x y : Operand} {t t' : TypeId}
/-- The rest of a division of numbers that are none below 0. -/
theorem ov_remN {k : IntKind} {a b : Nat} (hx : evalO env x = some (.int k (a : Int))) (hy : evalO env y = some (.int k (b : Int))) (hb : 0 < b) : OpVal P D w0 env l ⟨dst, .binOp .rem t x y t', ty, pos, after, g⟩ (.int k ((a % b : Nat) : Int)) :=
  ov_rem hx hy (by omega) (by rw [Int.tmod_eq_emod_of_nonneg (by omega)]; rfl)
theorem ov_remE {k : IntKind} {a b m : Nat} (hx : evalO env x = some (.int k (a : Int))) (hy : evalO env y = some (.int k (b : Int))) (hb : 0 < b) (hm : m = a % b) : OpVal P D w0 env l ⟨dst, .binOp .rem t x y t', ty, pos, after, g⟩ (.int k (m : Int)) := by subst hm; exact ov_remN hx hy hb
end
theorem split_at {α : Type} (l : List α) (k : Nat) (h : k < l.length) : ∃ a x b, l = a ++ x :: b ∧ a.length = k :=
  ⟨l.take k, l[k], l.drop (k + 1), by rw [← List.drop_eq_getElem_cons h, List.take_append_drop], by simp; omega⟩
section
variable {P : Program} {Q : Post} {D : Nat → Prop} {w0 : World} {n : Nat} {env : Slots} {l : List HProp} {ops : Array Oper}
theorem HC.rowB {t : TypeId} {x : List UInt8} {c : Value} {cc : Code}
    (k : ∀ A cap, c = .slice A x.length cap → HC P Q D w0 n env (row A t 1 x.length cap (x.map u8v) :: l) cc) : HC P Q D w0 n env (Slk.rowB t x c :: l) cc := .mk fun a w S => by
  obtain ⟨h, hh, h1, h2, ⟨A, cap, e, hr⟩, q⟩ := S.own.own
  exact (k A cap e).run a w ⟨S.env, ⟨S.own.os, S.own.tape, S.own.output, S.own.size, S.own.old, h, hh, h1, h2, hr, q⟩⟩
end
end Slk
