/- Modules of one body: what may be, in few words. -/
import Derived.Test.YtgehpjjpeddomaaGreatDoorZCMay
import Derived.Test.YtgehpjjpeddomaaGreatDoorZCFew
import Derived.Test.YtgehpjjpeddomaaGreatDoorZCDrawn
set_option linter.all false
namespace Go.Proofs.YtgehpjjpeddomaaGreatDoor
open Go
set_option maxRecDepth 100000
/-- A module of one function with this body. -/
def mBody (l : List Ins) (c : Bool) : Mod := ⟨[], [], [⟨0, [], l⟩], [], [], [], [], 0, [], [], c⟩
theorem mBody_ok {l : List Ins} (h : Inss l) (c : Bool) : (mBody l c).ok := by
  constructor <;> simp [mBody, lenOk, i64ok]
  exact ⟨⟨by show (-9223372036854775808 : Int) ≤ 0; omega, by show (0 : Int) ≤ 9223372036854775807; omega⟩, ⟨by simp [lenOk], by simp⟩, h⟩
theorem mBody_smallM {l : List Ins} (h : SmallC l) (c : Bool) : SmallM (mBody l c) := by
  refine { funcs := ?_, globals := ?_, offs := ?_, inits := ?_, datas := ?_ } <;> simp [mBody]
  exact h
theorem inss_one {i : Ins} (h : i.ok) : Inss [i] := ⟨by simp [lenOk], by simpa using h⟩
theorem pMay_body (l : List Ins) (c : Bool) : pMay (mBody l c) = (pCode l && (c || everyL noneS l)) := by
  simp [pMay, mBody, pCod, pIndex]
theorem c_body (l : List Ins) (c : Bool) (h : Inss l) (hs : SmallC l) (H : List AO) : doC fn_shape_May [.t (.agg [.sl [], .sl [], .sl [.agg [.v (.int .i64 0), .sl [], .sl (l.map Ins.enc)]], .sl [], .sl [], .sl [], .sl [], .v (.int .i64 0), .sl [], .sl [], .v (.bool c)])] H =
    some (.t (.v (.bool (pCode l && (c || everyL noneS l)))), H) := by
  rw [← pMay_body]
  exact c_may (mBody l c) (mBody_ok h c) (mBody_smallM hs c) H
theorem kn1 : knownS 1 = true := by kernel_rfl
theorem kn2 : knownS 2 = true := by kernel_rfl
theorem kn3 : knownS 3 = true := by kernel_rfl
theorem kn4 : knownS 4 = true := by kernel_rfl
theorem kn65 : knownS 65 = true := by kernel_rfl
theorem im1 : immS 1 = 0 := by kernel_rfl
theorem im2 : immS 2 = 1 := by kernel_rfl
theorem im3 : immS 3 = 1 := by kernel_rfl
theorem im4 : immS 4 = 1 := by kernel_rfl
theorem im65 : immS 65 = 12 := by kernel_rfl
theorem u64_and (n : Int) : 0 ≤ bitI .and .u64 n 4294967295 ∧ bitI .and .u64 n 4294967295 < 4294967296 := by
  have h : (BitVec.ofInt 64 n &&& BitVec.ofInt 64 4294967295).toNat < 2 ^ 32 := by
    rw [BitVec.toNat_and]
    exact Nat.and_lt_two_pow _ (by decide)
  have e : bitI .and .u64 n 4294967295 = IntKind.u64.wrap ((BitVec.ofInt 64 n &&& BitVec.ofInt 64 4294967295).toNat : Int) := rfl
  rw [e, wrap_u64 (by omega) (by omega)]
  omega
theorem u64_or (n : Int) : 4294967296 ≤ bitI .or .u64 n 4294967296 ∧ bitI .or .u64 n 4294967296 ≤ 18446744073709551615 := by
  have h : 4294967296 ≤ (BitVec.ofInt 64 n ||| BitVec.ofInt 64 4294967296).toNat := by
    rw [BitVec.toNat_or]
    exact Nat.le_trans (by decide) Nat.right_le_or
  have h2 := (BitVec.ofInt 64 n ||| BitVec.ofInt 64 4294967296).isLt
  have e : bitI .or .u64 n 4294967296 = IntKind.u64.wrap ((BitVec.ofInt 64 n ||| BitVec.ofInt 64 4294967296).toNat : Int) := rfl
  rw [e, wrap_u64 (by omega) (by omega)]
  omega
theorem i64_and1 (n : Int) : bitI .and .i64 n 1 = 0 ∨ bitI .and .i64 n 1 = 1 := by
  have h : (BitVec.ofInt 64 n &&& BitVec.ofInt 64 1).toNat < 2 ^ 1 := by
    rw [BitVec.toNat_and]
    exact Nat.and_lt_two_pow _ (by decide)
  have e : bitI .and .i64 n 1 = IntKind.i64.wrap ((BitVec.ofInt 64 n &&& BitVec.ofInt 64 1).toNat : Int) := rfl
  rw [e, wrap_i64 (by omega) (by omega)]
  omega
end Go.Proofs.YtgehpjjpeddomaaGreatDoor
