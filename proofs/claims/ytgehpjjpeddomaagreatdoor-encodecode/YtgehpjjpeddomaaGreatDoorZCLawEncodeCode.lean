/- EncodeCode: what the law computes is true. -/
import Derived.Test.YtgehpjjpeddomaaGreatDoorZCEnc11
import Derived.Test.YtgehpjjpeddomaaGreatDoorZCAwake10
set_option linter.all false
namespace Go.Proofs.YtgehpjjpeddomaaGreatDoor
open Go
set_option maxRecDepth 100000
theorem law_EncodeCode (l : List Ins) (hl : Inss l) : callL LG fn_bodkinlaw10_EncodeCode [.t (inss l)] [] = some (.t (.v (.bool true)), []) := by
  have hf := r_few l hl
  rw [callE LG rfl rfl rfl]
  cases h : few l with
  | false =>
    rw [h] at hf
    simp +contextual [-opsC_guardE, opsC_guard, c_awake10, hf]
  | true =>
    rw [h] at hf
    have hs := few_small h
    have hb := few_bytes h
    have hx : (exprB l).length ≤ 140737488355000 := by unfold exprB; simp only [List.length_append, List.length_cons, List.length_nil]; omega
    have h1 := c_Code l hl hs hx
    have h2 := r_expr l hl hs.1
    rw [← code_eq] at h2
    cases hp : pCode l with
    | false =>
      rw [hp] at h1 h2
      simp [-opsC_guardE, opsC_guard, c_awake10, hf, h1, h2]
    | true =>
      rw [hp] at h1 h2
      have hev : everyL pOne l = true := by
        simp only [pCode, Bool.and_eq_true] at hp
        exact hp.2
      have h3 := fun H => r_Expr10 l hl hev (by omega) H
      simp [-opsC_guardE, opsC_guard, opsD_guard, c_awake10, hf, h1, h2, h3, takeB]
end Go.Proofs.YtgehpjjpeddomaaGreatDoor
