/- The start of each law of chapter 10: awake is true, by one closed course in the kernel. -/
import Derived.Test.YtgehpjjpeddomaaGreatDoorZCBase
import Derived.Test.YtgehpjjpeddomaaGreatDoorZCWin
set_option linter.all false
namespace Go.Proofs.YtgehpjjpeddomaaGreatDoor
open Go
set_option maxRecDepth 1000000
theorem aw10 : callN LG 60 fn_bodkinlaw10_awake [] [] = some (.t (.v (.bool true)), []) := by kernel_rfl
theorem c_awake10 (H : List AO) : doC fn_bodkinlaw10_awake [] H = some (.t (.v (.bool true)), H) := by
  refine pureC rfl rfl rfl rfl ?_ H
  exact callL_of LG aw10
end Go.Proofs.YtgehpjjpeddomaaGreatDoor
