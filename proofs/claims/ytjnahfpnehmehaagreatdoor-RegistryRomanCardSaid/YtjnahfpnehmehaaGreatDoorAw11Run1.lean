/- The registry of chapter 11's awake, by the kernel. -/
import Derived.Test.YtjnahfpnehmehaaGreatDoorAw11Memo
namespace Go.Proofs.Tz
open Go Go.AE Go.Proofs
set_option maxRecDepth 1000000
theorem eNew11_run (e : TypeId) : memoOk (baseS (stG e) eNew11.base) eNew11.m (acallN (CS (sumE spaceT fields)) 100000 eNew11.f eNew11.args (baseS (stG e) eNew11.base)) = some [(e, e)] := by kernel_rfl
end Go.Proofs.Tz
