/- EncodeInstr: what the law computes is true. -/
import Derived.Test.YtgehpjjpeddomaaGreatDoorZCEnc11
import Derived.Test.YtgehpjjpeddomaaGreatDoorZCAwake10
set_option linter.all false
namespace Go.Proofs.YtgehpjjpeddomaaGreatDoor
open Go
set_option maxRecDepth 100000
theorem law_EncodeInstr (i : Ins) (hi : i.ok) : callL LG fn_bodkinlaw10_EncodeInstr [.t i.enc] [] = some (.t (.v (.bool true)), []) := by
  have hl : Inss [i] := inss_one hi
  have hf : ∀ H, doC fn_bodkinref09_Few [.t (.sl [i.enc])] H = some (.t (.v (.bool (few [i]))), H) := fun H => r_few [i] hl H
  have w1 := fun (r v n : Nat) (h : List AO) => doCall_win1 LG (callL LG) (f := fn_bodkinref09_Few) rfl rfl r v n h
  have w2 := fun (r v n : Nat) (h : List AO) => doCall_win1 LG (callL LG) (f := fn_encode_Code) rfl rfl r v n h
  have w3 := fun (r v n : Nat) (h : List AO) => doCall_win1 LG (callL LG) (f := fn_bodkinref09_Expr) rfl rfl r v n h
  have w4 := fun (r v n : Nat) (h : List AO) => doCall_win1 LG (callL LG) (f := fn_bodkinref10_Expr) rfl rfl r v n h
  rw [callE LG rfl rfl rfl]
  cases h : few [i] with
  | false =>
    rw [h] at hf
    simp +contextual [-opsC_guardE, opsC_guard, c_awake10, hf, w1]
  | true =>
    rw [h] at hf
    have hs := few_small h
    have hb := few_bytes h
    have hx : (exprB [i]).length ≤ 140737488355000 := by unfold exprB; simp only [List.length_append, List.length_cons, List.length_nil]; omega
    have h1 : ∀ H, doC fn_encode_Code [.t (.sl [i.enc])] H = _ := fun H => c_Code [i] hl hs hx H
    have h2 : ∀ H, doC fn_bodkinref09_Expr [.t (.sl [i.enc])] H = _ := fun H => r_expr [i] hl hs.1 H
    rw [← code_eq] at h2
    cases hp : pCode [i] with
    | false =>
      rw [hp] at h1 h2
      simp [-opsC_guardE, opsC_guard, c_awake10, hf, h1, h2, w1, w2, w3]
    | true =>
      rw [hp] at h1 h2
      have hev : everyL pOne [i] = true := by
        simp only [pCode, Bool.and_eq_true] at hp
        exact hp.2
      have h3 : ∀ H, doC fn_bodkinref10_Expr [.t (.sl [i.enc])] H = _ := fun H => r_Expr10 [i] hl hev (by omega) H
      simp [-opsC_guardE, opsC_guard, opsD_guard, c_awake10, hf, h1, h2, h3, w1, w2, w3, w4, takeB]
end Go.Proofs.YtgehpjjpeddomaaGreatDoor
