/- Few instructions are small. -/
import Derived.Test.YtgehpjjpeddomaaGreatDoorZCRef09b
import Derived.Test.YtgehpjjpeddomaaGreatDoorZCMay
set_option linter.all false
namespace Go.Proofs.YtgehpjjpeddomaaGreatDoor
open Go
theorem few_small {l : List Ins} (h : few l = true) : SmallC l := by
  have := few_spec h; exact ⟨by omega, by omega⟩
end Go.Proofs.YtgehpjjpeddomaaGreatDoor
