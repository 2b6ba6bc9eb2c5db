/- The package of chapter 18 is awake: its closed run, by the kernel. -/
import Derived.Test.YtjnahfpnehmehaaGreatDoorTz0
namespace Go.Proofs.Tz
open Go Go.AE Go.Proofs
set_option maxRecDepth 1000000
theorem awake18_run (e : TypeId) : yesB (acallN (CS sumCutK) 100000 14 [] (stG e)) = true := by kernel_rfl
end Go.Proofs.Tz
