/- What chapter 11's awake asks of its registry, by the kernel. -/
import Derived.Test.YtjnahfpnehmehaaGreatDoorAw11Memo
namespace Go.Proofs.Tz
open Go Go.AE Go.Proofs
set_option maxRecDepth 1000000
theorem eA0_run (e : TypeId) : memoOk (baseS (stG e) eA0.base) eA0.m (acallN (CS (sumE spaceT fields)) 100000 eA0.f eA0.args (baseS (stG e) eA0.base)) = some [(e, e)] := by kernel_rfl
theorem eA1_run (e : TypeId) : memoOk (baseS (stG e) eA1.base) eA1.m (acallN (CS (sumE spaceT fields)) 100000 eA1.f eA1.args (baseS (stG e) eA1.base)) = some [(e, e)] := by kernel_rfl
theorem eA2_run (e : TypeId) : memoOk (baseS (stG e) eA2.base) eA2.m (acallN (CS (sumE spaceT fields)) 100000 eA2.f eA2.args (baseS (stG e) eA2.base)) = some [(e, e)] := by kernel_rfl
theorem eA3_run (e : TypeId) : memoOk (baseS (stG e) eA3.base) eA3.m (acallN (CS (sumE spaceT fields)) 100000 eA3.f eA3.args (baseS (stG e) eA3.base)) = some [(e, e)] := by kernel_rfl
theorem eA4_run (e : TypeId) : memoOk (baseS (stG e) eA4.base) eA4.m (acallN (CS (sumE spaceT fields)) 100000 eA4.f eA4.args (baseS (stG e) eA4.base)) = some [(e, e)] := by kernel_rfl
theorem eA5_run (e : TypeId) : memoOk (baseS (stG e) eA5.base) eA5.m (acallN (CS (sumE spaceT fields)) 100000 eA5.f eA5.args (baseS (stG e) eA5.base)) = some [(e, e)] := by kernel_rfl
theorem eA6_run (e : TypeId) : memoOk (baseS (stG e) eA6.base) eA6.m (acallN (CS (sumE spaceT fields)) 100000 eA6.f eA6.args (baseS (stG e) eA6.base)) = some [(e, e)] := by kernel_rfl
theorem eA7_run (e : TypeId) : memoOk (baseS (stG e) eA7.base) eA7.m (acallN (CS (sumE spaceT fields)) 100000 eA7.f eA7.args (baseS (stG e) eA7.base)) = some [(e, e)] := by kernel_rfl
theorem eA8_run (e : TypeId) : memoOk (baseS (stG e) eA8.base) eA8.m (acallN (CS (sumE spaceT fields)) 100000 eA8.f eA8.args (baseS (stG e) eA8.base)) = some [(e, e)] := by kernel_rfl
theorem eA9_run (e : TypeId) : memoOk (baseS (stG e) eA9.base) eA9.m (acallN (CS (sumE spaceT fields)) 100000 eA9.f eA9.args (baseS (stG e) eA9.base)) = some [(e, e)] := by kernel_rfl
theorem eA10_run (e : TypeId) : memoOk (baseS (stG e) eA10.base) eA10.m (acallN (CS (sumE spaceT fields)) 100000 eA10.f eA10.args (baseS (stG e) eA10.base)) = some [(e, e)] := by kernel_rfl
theorem eA11_run (e : TypeId) : memoOk (baseS (stG e) eA11.base) eA11.m (acallN (CS (sumE spaceT fields)) 100000 eA11.f eA11.args (baseS (stG e) eA11.base)) = some [(e, e)] := by kernel_rfl
end Go.Proofs.Tz
