/- Contracts of the reference for shape: one instruction. -/
import Derived.Test.YtgehpjjpeddomaaGreatDoorZCRefOne0
import Derived.Test.YtgehpjjpeddomaaGreatDoorZCRefOne1
import Derived.Test.YtgehpjjpeddomaaGreatDoorZCRefOne2
import Derived.Test.YtgehpjjpeddomaaGreatDoorZCRefOne3
set_option linter.all false
namespace Go.Proofs.YtgehpjjpeddomaaGreatDoor
open Go
set_option maxRecDepth 100000

theorem r_one (i : Ins) (hl : lenOk i.l) (H : List AO) : doC fn_bodkinref09_One [.t i.enc] H = some (.t (.v (.bool (rOne i))), H) := by
  refine pureC rfl rfl rfl rfl ?_ H
  unfold rOne
  cases hkn : knownS i.op with
  | false =>
    have ho := c_Of i.op
    rw [ofS_none hkn] at ho
    rw [callE LG rfl rfl rfl]
    simp [ho]
  | true =>
    rw [Bool.true_and]
    rcases imm_cases i.op with h | h | h | h | h | h | h | h | h | h | h | h | h | h | h | h | h | h | h | h | h | h | h | h | h | h | h
    · rw [h]; exact r_one_0 i hl hkn h
    · rw [h]; exact r_one_1 i hl hkn h
    · rw [h]; exact r_one_2 i hl hkn h
    · rw [h]; exact r_one_3 i hl hkn h
    · rw [h]; exact r_one_4 i hl hkn h
    · rw [h]; exact r_one_5 i hl hkn h
    · rw [h]; exact r_one_6 i hl hkn h
    · rw [h]; exact r_one_7 i hl hkn h
    · rw [h]; exact r_one_8 i hl hkn h
    · rw [h]; exact r_one_9 i hl hkn h
    · rw [h]; exact r_one_10 i hl hkn h
    · rw [h]; exact r_one_11 i hl hkn h
    · rw [h]; exact r_one_12 i hl hkn h
    · rw [h]; exact r_one_13 i hl hkn h
    · rw [h]; exact r_one_14 i hl hkn h
    · rw [h]; exact r_one_15 i hl hkn h
    · rw [h]; exact r_one_16 i hl hkn h
    · rw [h]; exact r_one_17 i hl hkn h
    · rw [h]; exact r_one_18 i hl hkn h
    · rw [h]; exact r_one_19 i hl hkn h
    · rw [h]; exact r_one_20 i hl hkn h
    · rw [h]; exact r_one_21 i hl hkn h
    · rw [h]; exact r_one_22 i hl hkn h
    · rw [h]; exact r_one_23 i hl hkn h
    · rw [h]; exact r_one_24 i hl hkn h
    · rw [h]; exact r_one_25 i hl hkn h
    · rw [h]; exact r_one_26 i hl hkn h
end Go.Proofs.YtgehpjjpeddomaaGreatDoor
