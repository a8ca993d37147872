/- ShapeNest: what the law computes is true. -/
import Derived.Test.YtbabbianbhcjiaaGreatDoorZCLawShapeOne
import Derived.Test.YtbabbianbhcjiaaGreatDoorZCCount
set_option linter.all false
namespace Go.Proofs.YtbabbianbhcjiaaGreatDoor
open Go
set_option maxRecDepth 100000
/-- Instructions nested so deep. -/
def xN : Nat → List Ins
  | 0 => [.mk 1 0 0 0 0 [] [] [] false]
  | k + 1 => [.mk (2 + ((k % 2 : Nat) : Int)) 0 0 0 0 [] (xN k) [] false]
def encX : Nat → Tr
  | 0 => .agg [.v (.int .i64 1), .v (.int .i64 0), .v (.int .i64 0), .v (.int .u64 0), .v (.int .u64 0), .sl [], .sl [], .sl [], .v (.bool false)]
  | k + 1 => .agg [.v (.int .i64 (2 + ((k % 2 : Nat) : Int))), .v (.int .i64 0), .v (.int .i64 0), .v (.int .u64 0), .v (.int .u64 0), .sl [], .sl [encX k], .sl [], .v (.bool false)]
theorem encX_eq : ∀ k, (xN k).map Ins.enc = [encX k]
  | 0 => by simp [xN, encX, Ins.enc, encs, ints]
  | k + 1 => by simp [xN, encX, Ins.enc, encs_map, ints, encX_eq k]
theorem encX_cells (k : Nat) : (encX k).cells.length = 9 := by cases k <;> simp [encX]
theorem xN_nest : ∀ k, nestL (xN k) = k + 1
  | 0 => by simp [xN, nestL, Ins.nest]
  | k + 1 => by simp [xN, nestL, Ins.nest, xN_nest k]; omega
theorem xN_count : ∀ k, countL (xN k) = k + 1
  | 0 => by simp [xN, countL, Ins.count]
  | k + 1 => by simp [xN, countL, Ins.count, xN_count k]; omega
theorem op_two (k : Nat) : (2 + ((k % 2 : Nat) : Int)) = 2 ∨ (2 + ((k % 2 : Nat) : Int)) = 3 := by omega
theorem xN_ok : ∀ k, Inss (xN k)
  | 0 => ⟨by simp [xN, lenOk], by simp [xN, Ins.ok, i64ok, u64ok, insOk, intsOk, lenOk]⟩
  | k + 1 => by
    have := xN_ok k
    refine ⟨by simp [xN, lenOk], ?_⟩
    simp only [xN, List.mem_singleton, forall_eq, Ins.ok_iff]
    refine ⟨?_, ?_, ?_, ?_, ?_, ?_, this, ?_⟩ <;> simp [Ins.op, Ins.a, Ins.b, Ins.n, Ins.h, Ins.l, Ins.els, i64ok, u64ok, intsOk, lenOk, Inss]
    rcases op_two k with h | h <;> omega
theorem xN_one : ∀ k, everyL pOne (xN k) = true ∧ everyL noneS (xN k) = true
  | 0 => by simp [xN, everyL, Ins.every, pOne, kn1, im1, pOneK, pWithin, noneS, Ins.op, Ins.a, Ins.b, Ins.n, Ins.h, Ins.l, Ins.body, Ins.els, Ins.other]
  | k + 1 => by
    obtain ⟨h1, h2⟩ := xN_one k
    unfold xN
    rcases op_two k with h | h <;> rw [h] <;>
    simp [everyL, Ins.every, pOne, kn2, im2, kn3, im3, pOneK, pWithin, noneS, Ins.op, Ins.a, Ins.b, Ins.n, Ins.h, Ins.l, Ins.body, Ins.els, Ins.other, h1, h2]
theorem law_ShapeNest (l : List Ins) (d : Int) (hl : Inss l) (_ : i64ok d) : callL LG fn_bodkinlaw09_ShapeNest [.t (inss l), .t (.v (.int .i64 d))] [] = some (.t (.v (.bool true)), []) := by
  have hf := r_few l hl
  cases h : few l with
  | false =>
    rw [h] at hf
    rw [callE LG rfl rfl rfl]
    simp +contextual [-opsC_guardE, opsC_guard, c_awake, hf]
  | true =>
    rw [h] at hf
    by_cases h0 : d < 0
    · rw [callE LG rfl rfl rfl]
      simp +contextual [-opsC_guardE, opsC_guard, c_awake, hf, h0]
    by_cases h1 : 520 < d
    · rw [callE LG rfl rfl rfl]
      simp +contextual [-opsC_guardE, opsC_guard, c_awake, hf, h0, h1]
    obtain ⟨n, rfl⟩ : ∃ n : Nat, d = n := ⟨d.toNat, by omega⟩
    have hs := few_small h
    have n1 := c_nest_s l hl hs.1
    have n2 := r_nest l hl hs.1
    have q1 := c_count_s l hl hs.2
    have q2 := r_count l hl hs.2
    have hn : n ≤ 520 := by omega
    have x1 : ∀ H, doC fn_shape_Nest [.t (.sl [encX n])] H = some (.t (.v (.int .i64 ((n : Int) + 1))), H) := fun H => by
      have := c_nest_s (xN n) (xN_ok n) (by rw [xN_nest]; omega) H
      rw [encX_eq, xN_nest] at this
      simpa using this
    have x2 : ∀ H, doC fn_shape_Count [.t (.sl [encX n])] H = some (.t (.v (.int .i64 ((n : Int) + 1))), H) := fun H => by
      have := c_count_s (xN n) (xN_ok n) (by rw [xN_count]; omega) H
      rw [encX_eq, xN_count] at this
      simpa using this
    have x3 : ∀ H, doC fn_shape_May [.t (.agg [.sl [], .sl [], .sl [.agg [.v (.int .i64 0), .sl [], .sl [encX n]]], .sl [], .sl [], .sl [], .sl [], .v (.int .i64 0), .sl [], .sl [], .v (.bool false)])] H = some (.t (.v (.bool (decide ((n : Int) < 500)))), H) := fun H => by
      have := c_body (xN n) false (xN_ok n) ⟨by rw [xN_nest]; omega, by rw [xN_count]; omega⟩ H
      rw [encX_eq] at this
      rw [this]
      have e : decide (nestL (xN n) ≤ 500) = decide ((n : Int) < 500) := by rw [xN_nest]; congr 1; apply propext; omega
      simp [pCode, e, (xN_one n).1, (xN_one n).2]
    have hw1 : IntKind.i64.wrap ((n : Int) + 1) = (n : Int) + 1 := wrap_i64 (by omega) (by omega)
    have key : ∀ j k : Nat, j + k = n → ∀ pre : List AO, K_bodkinlaw09_ShapeNest_0 LG 0 (execL LG 0 (.loop L_bodkinlaw09_ShapeNest_0) (S_bodkinlaw09_ShapeNest_0 (.t (inss l)) (.t (.v (.int .i64 n))) (.win pre.length 0 1) (.t (.v (.int .i64 k))) (pre ++ [.arr 39 0 [encX k] 0 0]))) = some (.t (.v (.bool true)), []) := by
      intro j
      induction j with
      | zero =>
        intro k hk pre
        have : k = n := by omega
        subst this
        rw [execL_loop_eq]
        simp +contextual [-opsC_guardE, opsC_guard, K_bodkinlaw09_ShapeNest_0, List.getElem?_append_right, List.set_append_right, doCall_win1 LG (callL LG) (f := fn_shape_Nest) rfl rfl, doCall_win1 LG (callL LG) (f := fn_shape_Count) rfl rfl, n1, n2, q1, q2, x1, x2, x3, hw1, bin_beql und_bool]
      | succ j ih =>
        intro k hk pre
        have e := ih (k + 1) (by omega) (pre ++ [.arr 39 0 [encX k] 1 0])
        have hw2 : IntKind.i64.wrap ((k : Int) + 1) = (k : Int) + 1 := wrap_i64 (by omega) (by omega)
        have hw3 : IntKind.i64.wrap (2 + (k : Int).tmod 2) = 2 + ((k % 2 : Nat) : Int) := by
          rw [Int.tmod_eq_emod_of_nonneg (by omega), wrap_i64 (by omega) (by omega)]; omega
        have hlt : k < n := by omega
        rw [execL_loop_eq]
        simp only [K_bodkinlaw09_ShapeNest_0] at e ⊢
        simp [List.getElem?_append_right, List.set_append_right, bin_rem, hw2, hw3, hlt, trimE_eq, encX_cells]
        simpa [encX] using e
    rw [callE LG rfl rfl rfl]
    have k0 := key n 0 (by omega) []
    simp [K_bodkinlaw09_ShapeNest_0, encX] at k0
    simp +contextual [-opsC_guardE, opsC_guard, c_awake, hf, h0, h1]
    simpa using k0
end Go.Proofs.YtbabbianbhcjiaaGreatDoor
