/- Chapter 11's awake, by the kernel. -/
import Derived.Test.YtjnahfpnehmehaaGreatDoorAw11Memo
namespace Go.Proofs.Tz
open Go Go.AE Go.Proofs
set_option maxRecDepth 1000000
theorem awake11_run (e : TypeId) : yesB (acallN (CS (sumE spaceT asks11)) 100000 27 [] (stG e)) = true := by kernel_rfl
end Go.Proofs.Tz
