/- The registry of the own styles: its making, by the kernel. -/
import Derived.Test.YtjnahfpnehmehaaGreatDoorRegMemo
namespace Go.Proofs.Tz
open Go Go.AE Go.Proofs
set_option maxRecDepth 1000000
theorem mNew_run (e : TypeId) : memoOk (stG e) mNew (acallN C0 100000 19 [.nils] (stG e)) = some [(e, e)] := by kernel_rfl
end Go.Proofs.Tz
