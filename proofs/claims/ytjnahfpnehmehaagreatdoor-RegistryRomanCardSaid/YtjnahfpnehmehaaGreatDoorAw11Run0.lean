/- strings.Fields at five texts, by the kernel. -/
import Derived.Test.YtjnahfpnehmehaaGreatDoorAw11Memo
namespace Go.Proofs.Tz
open Go Go.AE Go.Proofs
set_option maxRecDepth 1000000
theorem eFd_run (e : TypeId) : memoOk (baseS (stG e) eFd.base) eFd.m (acallN C0 100000 eFd.f eFd.args (baseS (stG e) eFd.base)) = some [(e, e)] := by kernel_rfl
theorem eFl_run (e : TypeId) : memoOk (baseS (stG e) eFl.base) eFl.m (acallN C0 100000 eFl.f eFl.args (baseS (stG e) eFl.base)) = some [(e, e)] := by kernel_rfl
theorem eFL_run (e : TypeId) : memoOk (baseS (stG e) eFL.base) eFL.m (acallN C0 100000 eFL.f eFL.args (baseS (stG e) eFL.base)) = some [(e, e)] := by kernel_rfl
theorem eFr_run (e : TypeId) : memoOk (baseS (stG e) eFr.base) eFr.m (acallN C0 100000 eFr.f eFr.args (baseS (stG e) eFr.base)) = some [(e, e)] := by kernel_rfl
theorem eFR_run (e : TypeId) : memoOk (baseS (stG e) eFR.base) eFR.m (acallN C0 100000 eFR.f eFR.args (baseS (stG e) eFR.base)) = some [(e, e)] := by kernel_rfl
theorem eFo_run (e : TypeId) : memoOk (baseS (stG e) eFo.base) eFo.m (acallN C0 100000 eFo.f eFo.args (baseS (stG e) eFo.base)) = some [(e, e)] := by kernel_rfl
theorem eFf_run (e : TypeId) : memoOk (baseS (stG e) eFf.base) eFf.m (acallN C0 100000 eFf.f eFf.args (baseS (stG e) eFf.base)) = some [(e, e)] := by kernel_rfl
theorem eFk_run (e : TypeId) : memoOk (baseS (stG e) eFk.base) eFk.m (acallN C0 100000 eFk.f eFk.args (baseS (stG e) eFk.base)) = some [(e, e)] := by kernel_rfl
theorem eFp_run (e : TypeId) : memoOk (baseS (stG e) eFp.base) eFp.m (acallN C0 100000 eFp.f eFp.args (baseS (stG e) eFp.base)) = some [(e, e)] := by kernel_rfl
end Go.Proofs.Tz
