/- The two packages say the same of instructions. -/
import Derived.Test.YtgehpjjpeddomaaGreatDoorZCRef09d
import Derived.Test.YtgehpjjpeddomaaGreatDoorZCShape3
set_option linter.all false
namespace Go.Proofs.YtgehpjjpeddomaaGreatDoor
open Go
set_option maxRecDepth 100000
theorem index_eq (n : Int) : rIndex n = pIndex n := rfl
theorem ref_eq (n : Int) : rRef n = pRef n := rfl
theorem val_eq (n : Int) : rVal n = pValue n := by
  rw [Bool.eq_iff_iff]
  simp only [rVal, pValue, pRef, Bool.or_eq_true, Bool.and_eq_true, decide_eq_true_eq]
  omega
theorem idx_eq (l : List Int) : rIdx 4294967296 l = l.all pIndex := by
  unfold rIdx; congr 1; funext n
  rw [Bool.eq_iff_iff]; simp only [pIndex, Bool.and_eq_true, Bool.not_eq_true', decide_eq_true_eq, decide_eq_false_iff_not]; omega
theorem oct_eq (l : List Int) : rIdx 256 l = l.all pOctet := by
  unfold rIdx; congr 1; funext n
  rw [Bool.eq_iff_iff]; simp only [pOctet, Bool.and_eq_true, Bool.not_eq_true', decide_eq_true_eq, decide_eq_false_iff_not]; omega
theorem vals_eq (l : List Int) : l.all rVal = l.all pValue := by congr 1; funext n; exact val_eq n
theorem one_eq (i : Ins) : pOne i = rOne i := by
  unfold pOne rOne
  cases knownS i.op with
  | false => rfl
  | true =>
    rw [Bool.true_and, Bool.true_and]
    rcases imm_cases i.op with h | h | h | h | h | h | h | h | h | h | h | h | h | h | h | h | h | h | h | h | h | h | h | h | h | h | h
    all_goals rw [h]
    all_goals simp only [pOneK, rOneK, rFin, pWithin, idx_eq, oct_eq, vals_eq, val_eq, index_eq, ref_eq]
    all_goals simp (config := {decide := true}) only [if_true, if_false]
    all_goals generalize pIndex i.a = g1
    all_goals generalize pIndex i.b = g2
    all_goals generalize i.l.all pIndex = g3
    all_goals generalize i.l.all pOctet = g4
    all_goals generalize i.l.all pValue = g5
    all_goals generalize pRef i.a = g6
    all_goals generalize pValue i.b = g7
    all_goals generalize i.l.length = n
    all_goals generalize i.body.length = nb
    all_goals generalize i.els.length = ne
    all_goals generalize i.other = o
    all_goals rw [Bool.eq_iff_iff]
    all_goals simp only [pOctet, Bool.and_eq_true, Bool.or_eq_true, Bool.not_eq_true', Bool.and_eq_false_iff, Bool.or_eq_false_iff, decide_eq_true_eq, decide_eq_false_iff_not, Bool.not_eq_false', Bool.false_eq_true, Bool.true_eq_false]
    all_goals grind
theorem pone_rone : pOne = rOne := funext one_eq
theorem code_eq (l : List Ins) : pCode l = rExpr l := by
  unfold pCode rExpr
  rw [pone_rone, Bool.and_comm]
end Go.Proofs.YtgehpjjpeddomaaGreatDoor
