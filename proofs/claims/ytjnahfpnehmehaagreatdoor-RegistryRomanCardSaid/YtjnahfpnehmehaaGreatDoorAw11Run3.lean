/- What chapter 11's awake asks of no registry, by the kernel. -/
import Derived.Test.YtjnahfpnehmehaaGreatDoorAw11Memo
namespace Go.Proofs.Tz
open Go Go.AE Go.Proofs
set_option maxRecDepth 1000000
theorem eNil_run (e : TypeId) : memoOk (baseS (stG e) eNil.base) eNil.m (acallN (CS (sumE spaceT (eNew :: fields))) 100000 eNil.f eNil.args (baseS (stG e) eNil.base)) = some [(e, e)] := by kernel_rfl
theorem eOwn_run (e : TypeId) : memoOk (baseS (stG e) eOwn.base) eOwn.m (acallN (CS (sumE spaceT fields)) 100000 eOwn.f eOwn.args (baseS (stG e) eOwn.base)) = some [(e, e)] := by kernel_rfl
end Go.Proofs.Tz
