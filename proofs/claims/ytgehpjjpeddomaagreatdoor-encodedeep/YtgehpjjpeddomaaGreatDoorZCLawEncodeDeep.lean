/- EncodeDeep: what the law computes is true. -/
import Derived.Test.YtgehpjjpeddomaaGreatDoorZCEnc7
import Derived.Test.YtgehpjjpeddomaaGreatDoorZCAwake10
set_option linter.all false
namespace Go.Proofs.YtgehpjjpeddomaaGreatDoor
open Go
set_option maxRecDepth 100000
/-- Instructions nested so deep, of a kind that turns. -/
def yN (kind : Int) : Nat → List Ins
  | 0 => [.mk 1 0 0 0 0 [] [] [] false]
  | k + 1 => [.mk (2 + bitI .and .i64 (IntKind.i64.wrap (kind + k)) 1) 0 0 0 0 [] (yN kind k) [] false]
def encY (kind : Int) : Nat → Tr
  | 0 => .agg [.v (.int .i64 1), .v (.int .i64 0), .v (.int .i64 0), .v (.int .u64 0), .v (.int .u64 0), .sl [], .sl [], .sl [], .v (.bool false)]
  | k + 1 => .agg [.v (.int .i64 (2 + bitI .and .i64 (IntKind.i64.wrap (kind + k)) 1)), .v (.int .i64 0), .v (.int .i64 0), .v (.int .u64 0), .v (.int .u64 0), .sl [], .sl [encY kind k], .sl [], .v (.bool false)]
theorem encY_eq (kind : Int) : ∀ k, (yN kind k).map Ins.enc = [encY kind k]
  | 0 => by simp [yN, encY, Ins.enc, encs, ints]
  | k + 1 => by simp [yN, encY, Ins.enc, encs_map, ints, encY_eq kind k]
theorem encY_cells (kind : Int) (k : Nat) : (encY kind k).cells.length = 9 := by cases k <;> simp [encY]
theorem yN_nest (kind : Int) : ∀ k, nestL (yN kind k) = k + 1
  | 0 => by simp [yN, nestL, Ins.nest]
  | k + 1 => by simp [yN, nestL, Ins.nest, yN_nest kind k]; omega
theorem yN_count (kind : Int) : ∀ k, countL (yN kind k) = k + 1
  | 0 => by simp [yN, countL, Ins.count]
  | k + 1 => by simp [yN, countL, Ins.count, yN_count kind k]; omega
theorem opY (n : Int) : (2 + bitI .and .i64 n 1) = 2 ∨ (2 + bitI .and .i64 n 1) = 3 := by
  rcases i64_and1 n with h | h <;> rw [h] <;> decide
theorem yN_ok (kind : Int) : ∀ k, Inss (yN kind k)
  | 0 => ⟨by simp [yN, lenOk], by simp [yN, Ins.ok, i64ok, u64ok, insOk, intsOk, lenOk]⟩
  | k + 1 => by
    have := yN_ok kind k
    refine ⟨by simp [yN, lenOk], ?_⟩
    simp only [yN, List.mem_singleton, forall_eq, Ins.ok_iff]
    refine ⟨?_, ?_, ?_, ?_, ?_, ?_, this, ?_⟩ <;> simp [Ins.op, Ins.a, Ins.b, Ins.n, Ins.h, Ins.l, Ins.els, i64ok, u64ok, intsOk, lenOk, Inss]
    rcases opY (IntKind.i64.wrap (kind + k)) with h | h <;> omega
theorem yN_one (kind : Int) : ∀ k, everyL pOne (yN kind k) = true
  | 0 => by simp [yN, everyL, Ins.every, pOne, kn1, im1, pOneK, pWithin, Ins.op, Ins.a, Ins.b, Ins.n, Ins.h, Ins.l, Ins.body, Ins.els, Ins.other]
  | k + 1 => by
    have h1 := yN_one kind k
    unfold yN
    rcases opY (IntKind.i64.wrap (kind + k)) with h | h <;> rw [h] <;>
    simp [everyL, Ins.every, pOne, kn2, im2, kn3, im3, pOneK, pWithin, Ins.op, Ins.a, Ins.b, Ins.n, Ins.h, Ins.l, Ins.body, Ins.els, Ins.other, h1]
theorem yB0 (kind : Int) : bytesL (yN kind 0) = [1] := by
  simp [yN, bytesL, Ins.bytes, headB, im1, midB]
  decide
theorem yB (kind : Int) (k : Nat) : ∃ b, bytesL (yN kind (k + 1)) = b :: 64 :: (bytesL (yN kind k) ++ [11]) := by
  have e : yN kind (k + 1) = [.mk (2 + bitI .and .i64 (IntKind.i64.wrap (kind + k)) 1) 0 0 0 0 [] (yN kind k) [] false] := rfl
  rw [e]
  rcases opY (IntKind.i64.wrap (kind + k)) with h | h <;> rw [h]
  · exact ⟨by8 2, by simp [bytesL, Ins.bytes, headB, im2, typeB]⟩
  · exact ⟨by8 3, by simp [bytesL, Ins.bytes, headB, im3, typeB]⟩
theorem yB_len (kind : Int) : ∀ k, (bytesL (yN kind k)).length = 3 * k + 1
  | 0 => by rw [yB0]; rfl
  | k + 1 => by
    obtain ⟨b, hb⟩ := yB kind k
    rw [hb]
    simp [yB_len kind k]
    omega
theorem yB_mid (kind : Int) : ∀ k, (bytesL (yN kind k))[2 * k]? = some 1
  | 0 => by rw [yB0]; rfl
  | k + 1 => by
    obtain ⟨b, hb⟩ := yB kind k
    have hl := yB_len kind k
    rw [hb, show 2 * (k + 1) = 2 * k + 1 + 1 by omega, List.getElem?_cons_succ, List.getElem?_cons_succ, List.getElem?_append_left (by omega)]
    exact yB_mid kind k
theorem bsT_get (l : List UInt8) (j : Nat) (b : UInt8) (h : l[j]? = some b) : (bsT l)[j]? = some (.v (.int .u8 (b.toNat : Int))) := by
  unfold bsT
  rw [List.getElem?_map, h]; rfl
theorem law_EncodeDeep (d kind : Int) (_ : i64ok d) (_ : i64ok kind) : callL LG fn_bodkinlaw10_EncodeDeep [.t (.v (.int .i64 d)), .t (.v (.int .i64 kind))] [] = some (.t (.v (.bool true)), []) := by
  by_cases h0 : d < 0
  · rw [callE LG rfl rfl rfl]
    simp +contextual [-opsC_guardE, opsC_guard, c_awake10, h0]
  by_cases h1 : 520 < d
  · rw [callE LG rfl rfl rfl]
    simp +contextual [-opsC_guardE, opsC_guard, c_awake10, h0, h1]
  obtain ⟨n, rfl⟩ : ∃ n : Nat, d = n := ⟨d.toNat, by omega⟩
  have hn : n ≤ 520 := by omega
  have hlenB := yB_len kind n
  have hlenE : (exprB (yN kind n)).length = 3 * n + 2 := by unfold exprB; rw [List.length_append, hlenB]; rfl
  have hC : ∀ H, doC fn_encode_Code [.t (.sl [encY kind n])] H = some (.tup [.t (.sl (if pCode (yN kind n) then bsT (exprB (yN kind n)) else [])), .t (.v (.int .i64 (if pCode (yN kind n) then 0 else 1)))], H) := fun H => by
    have := c_Code (yN kind n) (yN_ok kind n) ⟨by rw [yN_nest]; omega, by rw [yN_count]; omega⟩ (by rw [hlenE]; omega) H
    simp only [insA, encY_eq] at this
    exact this
  have hp : pCode (yN kind n) = decide (n < 500) := by
    simp only [pCode, yN_one, Bool.and_true, yN_nest]
    congr 1
  have i1 : (bsT (exprB (yN kind n)))[2 * n]? = some (.v (.int .u8 1)) := by
    refine bsT_get _ _ 1 ?_
    unfold exprB
    rw [List.getElem?_append_left (by omega)]
    exact yB_mid kind n
  have i2 : (bsT (exprB (yN kind n)))[3 * n + 1]? = some (.v (.int .u8 11)) := by
    refine bsT_get _ _ 11 ?_
    unfold exprB
    rw [List.getElem?_append_right (by omega), hlenB, Nat.sub_self]; rfl
  have j1 : ∀ h : 2 * n < (bsT (exprB (yN kind n))).length, (bsT (exprB (yN kind n)))[2 * n]'h = .v (.int .u8 1) := fun h => by
    rw [List.getElem?_eq_getElem h] at i1
    exact Option.some.inj i1
  have j2 : ∀ h : 3 * n + 1 < (bsT (exprB (yN kind n))).length, (bsT (exprB (yN kind n)))[3 * n + 1]'h = .v (.int .u8 11) := fun h => by
    rw [List.getElem?_eq_getElem h] at i2
    exact Option.some.inj i2
  have v1 : IntKind.i64.wrap (3 * (n : Int)) = 3 * (n : Int) := wrap_i64 (by omega) (by omega)
  have v2 : IntKind.i64.wrap (2 + 3 * (n : Int)) = 2 + 3 * (n : Int) := wrap_i64 (by omega) (by omega)
  have v3 : IntKind.i64.wrap (2 * (n : Int)) = 2 * (n : Int) := wrap_i64 (by omega) (by omega)
  have v4 : IntKind.i64.wrap (3 * (n : Int) + 2 - 1) = 3 * (n : Int) + 1 := by rw [wrap_i64 (by omega) (by omega)]; omega
  have v5 : (3 * (n : Int) + 2 = 2 + 3 * (n : Int)) = True := eq_true (by omega)
  have v6 : ((3 * (n : Int) + 1).toNat) = 3 * n + 1 := by omega
  have v7 : ((2 * (n : Int)).toNat) = 2 * n := by omega
  have v8 : ((0 : Int) ≤ 3 * (n : Int) + 1) = True := eq_true (by omega)
  have v9 : ((0 : Int) ≤ 2 * (n : Int)) = True := eq_true (by omega)
  have w1 := fun (r v n : Nat) (h : List AO) => doCall_win1 LG (callL LG) (f := fn_encode_Code) rfl rfl r v n h
  have key : ∀ j k : Nat, j + k = n → ∀ pre : List AO, K_bodkinlaw10_EncodeDeep_0 LG 0 (execL LG 0 (.loop L_bodkinlaw10_EncodeDeep_0) (S_bodkinlaw10_EncodeDeep_0 (.t (.v (.int .i64 n))) (.t (.v (.int .i64 kind))) (.win pre.length 0 1) (.t (.v (.int .i64 k))) (pre ++ [.arr ty_api_Instr 0 [encY kind k] 0 0]))) = some (.t (.v (.bool true)), []) := by
    intro j
    induction j with
    | zero =>
      intro k hk pre
      have : k = n := by omega
      subst this
      rw [execL_loop_eq]
      by_cases hb : k < 500
      · have hb' : ¬ (500 : Int) ≤ k := by omega
        have hp' : pCode (yN kind k) = true := by rw [hp]; simp [hb]
        rw [hp'] at hC
        simp only [if_true] at hC
        simp [-opsC_guardE, opsC_guard, K_bodkinlaw10_EncodeDeep_0, List.getElem?_append_right, List.set_append_right, w1, hC, hb', hlenE, i1, i2, j1, j2, v1, v2, v3, v4, v5, v6, v7, v8, v9]
      · have hb' : (500 : Int) ≤ k := by omega
        have hp' : pCode (yN kind k) = false := by rw [hp]; simp [hb]
        rw [hp'] at hC
        simp only [Bool.false_eq_true, if_false] at hC
        simp [-opsC_guardE, opsC_guard, K_bodkinlaw10_EncodeDeep_0, List.getElem?_append_right, List.set_append_right, w1, hC, hb']
    | succ j ih =>
      intro k hk pre
      have e := ih (k + 1) (by omega) (pre ++ [.arr ty_api_Instr 0 [encY kind k] 1 0])
      have hw2 : IntKind.i64.wrap ((k : Int) + 1) = (k : Int) + 1 := wrap_i64 (by omega) (by omega)
      have hw3 : IntKind.i64.wrap (2 + bitI .and .i64 (IntKind.i64.wrap (kind + k)) 1) = 2 + bitI .and .i64 (IntKind.i64.wrap (kind + k)) 1 := by
        rcases opY (IntKind.i64.wrap (kind + k)) with h | h <;> rw [h] <;> decide
      have hlt : k < n := by omega
      rw [execL_loop_eq]
      simp only [K_bodkinlaw10_EncodeDeep_0] at e ⊢
      simp [List.getElem?_append_right, List.set_append_right, hw2, hw3, hlt, trimE_eq, encY_cells]
      simpa [encY] using e
  rw [callE LG rfl rfl rfl]
  have k0 := key n 0 (by omega) []
  simp [K_bodkinlaw10_EncodeDeep_0, encY] at k0
  simp +contextual [-opsC_guardE, opsC_guard, c_awake10, h0, h1]
  simpa using k0
end Go.Proofs.YtgehpjjpeddomaaGreatDoor
