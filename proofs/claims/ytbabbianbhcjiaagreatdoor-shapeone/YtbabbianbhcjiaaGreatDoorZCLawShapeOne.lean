/- Parts, one behind the other; the last: ShapeOne: what the law computes is true. -/
import Derived.Test.YtbabbianbhcjiaaGreatDoorZCPlain2
import Derived.Test.YtbabbianbhcjiaaGreatDoorZCLawKit
set_option linter.all false
/- Modules of one body: what may be, in few words. -/
namespace Go.Proofs.YtbabbianbhcjiaaGreatDoor
open Go
set_option maxRecDepth 100000
/-- A module of one function with this body. -/
def mBody (l : List Ins) (c : Bool) : Mod := ⟨[], [], [⟨0, [], l⟩], [], [], [], [], 0, [], [], c⟩
/-- A module of one variable that begins so. -/
def mInit (l : List Ins) (c : Bool) : Mod := ⟨[], [], [], [], [], [⟨⟨127, false⟩, l⟩], [], 0, [], [], c⟩
theorem mBody_ok {l : List Ins} (h : Inss l) (c : Bool) : (mBody l c).ok := by
  constructor <;> simp [mBody, lenOk, i64ok]
  exact ⟨⟨by show (-9223372036854775808 : Int) ≤ 0; omega, by show (0 : Int) ≤ 9223372036854775807; omega⟩, ⟨by simp [lenOk], by simp⟩, h⟩
theorem mInit_ok {l : List Ins} (h : Inss l) (c : Bool) : (mInit l c).ok := by
  constructor <;> simp [mInit, lenOk, i64ok]
  exact ⟨⟨by show (-9223372036854775808 : Int) ≤ 127; omega, by show (127 : Int) ≤ 9223372036854775807; omega⟩, h⟩
theorem mBody_small {l : List Ins} (h : SmallC l) (c : Bool) : SmallR (mBody l c) := by
  refine { funcs := ?_, globals := ?_, offs := ?_, inits := ?_, datas := ?_, imports := ?_, exports := ?_ } <;> simp [mBody]
  exact h
theorem mInit_small {l : List Ins} (h : SmallC l) (c : Bool) : SmallR (mInit l c) := by
  refine { funcs := ?_, globals := ?_, offs := ?_, inits := ?_, datas := ?_, imports := ?_, exports := ?_ } <;> simp [mInit]
  exact h
theorem inss_one {i : Ins} (h : i.ok) : Inss [i] := ⟨by simp [lenOk], by simpa using h⟩
theorem pMay_body (l : List Ins) (c : Bool) : pMay (mBody l c) = (pCode l && (c || everyL noneS l)) := by
  simp [pMay, mBody, pCod, pIndex]
theorem c_body (l : List Ins) (c : Bool) (h : Inss l) (hs : SmallC l) (H : List AO) : doC fn_shape_May [.t (.agg [.sl [], .sl [], .sl [.agg [.v (.int .i64 0), .sl [], .sl (l.map Ins.enc)]], .sl [], .sl [], .sl [], .sl [], .v (.int .i64 0), .sl [], .sl [], .v (.bool c)])] H =
    some (.t (.v (.bool (pCode l && (c || everyL noneS l)))), H) := by
  rw [← pMay_body]
  exact c_may (mBody l c) (mBody_ok h c) (mBody_small hs c).toSmallM H
theorem kn1 : knownS 1 = true := by kernel_rfl
theorem kn2 : knownS 2 = true := by kernel_rfl
theorem kn3 : knownS 3 = true := by kernel_rfl
theorem kn4 : knownS 4 = true := by kernel_rfl
theorem kn65 : knownS 65 = true := by kernel_rfl
theorem im1 : immS 1 = 0 := by kernel_rfl
theorem im2 : immS 2 = 1 := by kernel_rfl
theorem im3 : immS 3 = 1 := by kernel_rfl
theorem im4 : immS 4 = 1 := by kernel_rfl
theorem im65 : immS 65 = 12 := by kernel_rfl
theorem u64_and (n : Int) : 0 ≤ bitI .and .u64 n 4294967295 ∧ bitI .and .u64 n 4294967295 < 4294967296 := by
  have h : (BitVec.ofInt 64 n &&& BitVec.ofInt 64 4294967295).toNat < 2 ^ 32 := by
    rw [BitVec.toNat_and]
    exact Nat.and_lt_two_pow _ (by decide)
  have e : bitI .and .u64 n 4294967295 = IntKind.u64.wrap ((BitVec.ofInt 64 n &&& BitVec.ofInt 64 4294967295).toNat : Int) := rfl
  rw [e, wrap_u64 (by omega) (by omega)]
  omega
theorem u64_or (n : Int) : 4294967296 ≤ bitI .or .u64 n 4294967296 ∧ bitI .or .u64 n 4294967296 ≤ 18446744073709551615 := by
  have h : 4294967296 ≤ (BitVec.ofInt 64 n ||| BitVec.ofInt 64 4294967296).toNat := by
    rw [BitVec.toNat_or]
    exact Nat.le_trans (by decide) Nat.right_le_or
  have h2 := (BitVec.ofInt 64 n ||| BitVec.ofInt 64 4294967296).isLt
  have e : bitI .or .u64 n 4294967296 = IntKind.u64.wrap ((BitVec.ofInt 64 n ||| BitVec.ofInt 64 4294967296).toNat : Int) := rfl
  rw [e, wrap_u64 (by omega) (by omega)]
  omega
theorem i64_and1 (n : Int) : bitI .and .i64 n 1 = 0 ∨ bitI .and .i64 n 1 = 1 := by
  have h : (BitVec.ofInt 64 n &&& BitVec.ofInt 64 1).toNat < 2 ^ 1 := by
    rw [BitVec.toNat_and]
    exact Nat.and_lt_two_pow _ (by decide)
  have e : bitI .and .i64 n 1 = IntKind.i64.wrap ((BitVec.ofInt 64 n &&& BitVec.ofInt 64 1).toNat : Int) := rfl
  rw [e, wrap_i64 (by omega) (by omega)]
  omega
end Go.Proofs.YtbabbianbhcjiaaGreatDoor
/- ShapeOne: what the law computes is true. -/
namespace Go.Proofs.YtbabbianbhcjiaaGreatDoor
open Go
set_option maxRecDepth 100000
theorem law_ShapeOne (i : Ins) (q : Bool) (hi : i.ok) : callL LG fn_bodkinlaw09_ShapeOne [.t i.enc, .t (.v (.bool q))] [] = some (.t (.v (.bool true)), []) := by
  rw [callE LG rfl rfl rfl]
  have hf : ∀ H, doC fn_bodkinref09_Few [.t (.sl [i.enc])] H = some (.t (.v (.bool (few [i]))), H) := fun H => r_few [i] (inss_one hi) H
  cases h : few [i] with
  | false =>
    rw [h] at hf
    simp +contextual [-opsC_guardE, opsC_guard, opsD_guard, c_awake, doCall_win1 LG (callL LG) (f := fn_bodkinref09_Few) rfl rfl, hf]
  | true =>
    rw [h] at hf
    have hs := few_small h
    have h1 : ∀ H, doC fn_shape_May [.t (.agg [.sl [], .sl [], .sl [.agg [.v (.int .i64 0), .sl [], .sl [i.enc]]], .sl [], .sl [], .sl [], .sl [], .v (.int .i64 0), .sl [], .sl [], .v (.bool q)])] H = some (.t (.v (.bool (rMay (mBody [i] q)))), H) := fun H => by
      rw [← may_eq]; exact c_may (mBody [i] q) (mBody_ok (inss_one hi) q) (mBody_small hs q).toSmallM H
    have h2 : ∀ H, doC fn_bodkinref09_May [.t (.agg [.sl [], .sl [], .sl [.agg [.v (.int .i64 0), .sl [], .sl [i.enc]]], .sl [], .sl [], .sl [], .sl [], .v (.int .i64 0), .sl [], .sl [], .v (.bool q)])] H = some (.t (.v (.bool (rMay (mBody [i] q)))), H) := fun H =>
      r_may (mBody [i] q) (mBody_ok (inss_one hi) q) (mBody_small hs q) H
    have h3 : ∀ H, doC fn_shape_May [.t (.agg [.sl [], .sl [], .sl [], .sl [], .sl [], .sl [.agg [.v (.int .i64 127), .v (.bool false), .sl [i.enc]]], .sl [], .v (.int .i64 0), .sl [], .sl [], .v (.bool q)])] H = some (.t (.v (.bool (rMay (mInit [i] q)))), H) := fun H => by
      rw [← may_eq]; exact c_may (mInit [i] q) (mInit_ok (inss_one hi) q) (mInit_small hs q).toSmallM H
    have h4 : ∀ H, doC fn_bodkinref09_May [.t (.agg [.sl [], .sl [], .sl [], .sl [], .sl [], .sl [.agg [.v (.int .i64 127), .v (.bool false), .sl [i.enc]]], .sl [], .v (.int .i64 0), .sl [], .sl [], .v (.bool q)])] H = some (.t (.v (.bool (rMay (mInit [i] q)))), H) := fun H =>
      r_may (mInit [i] q) (mInit_ok (inss_one hi) q) (mInit_small hs q) H
    simp +contextual [-opsC_guardE, opsC_guard, opsD_guard, c_awake, doCall_win1 LG (callL LG) (f := fn_bodkinref09_Few) rfl rfl, hf, h1, h2, h3, h4, bin_beql und_bool]
end Go.Proofs.YtbabbianbhcjiaaGreatDoor
