/- ShapeMay: what the law computes is true. -/
import Derived.Test.YtbabbianbhcjiaaGreatDoorZCPlain2
import Derived.Test.YtbabbianbhcjiaaGreatDoorZCLawKit
set_option linter.all false
namespace Go.Proofs.YtbabbianbhcjiaaGreatDoor
open Go
set_option maxRecDepth 100000
theorem law_ShapeMay (m : Mod) (hm : m.ok) : callL LG fn_bodkinlaw09_ShapeMay [.t m.enc] [] = some (.t (.v (.bool true)), []) := by
  rw [callE LG rfl rfl rfl]
  have hf := r_fits m hm
  cases h : fits m with
  | false =>
    rw [h] at hf
    simp +contextual [-opsC_guardE, opsC_guard, opsD_guard, c_awake, hf]
  | true =>
    rw [h] at hf
    have h1 := c_may m hm (fits_small h).toSmallM
    have h2 := r_may m hm (fits_small h)
    rw [may_eq] at h1
    simp +contextual [-opsC_guardE, opsC_guard, opsD_guard, c_awake, hf, h1, h2, bin_beql und_bool]
end Go.Proofs.YtbabbianbhcjiaaGreatDoor
