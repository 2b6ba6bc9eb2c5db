/- The registry of the own styles: or and May at each name, by the kernel. -/
import Derived.Test.YtjnahfpnehmehaaGreatDoorRegOr
namespace Go.Proofs.Tz
open Go Go.AE Go.Proofs
set_option maxRecDepth 1000000
theorem or0_run (e : TypeId) : memoOk (sN e) mOr0 (acallN C0 100000 55 [.ptr 65 0, .str [100, 101, 99, 105, 109, 97, 108]] (sN e)) = some [(e, e)] := by kernel_rfl
theorem may0_run (e : TypeId) : memoOk (addS mOr0 (sN e)) mMay0 (acallN C0 100000 70 [mOr0.v] (addS mOr0 (sN e))) = some [(e, e)] := by kernel_rfl
theorem or1_run (e : TypeId) : memoOk (sN e) mOr1 (acallN C0 100000 55 [.ptr 65 0, .str [100, 101, 99, 105, 109, 97, 108, 45, 108, 101, 97, 100, 105, 110, 103, 45, 122, 101, 114, 111]] (sN e)) = some [(e, e)] := by kernel_rfl
theorem may1_run (e : TypeId) : memoOk (addS mOr1 (sN e)) mMay1 (acallN C0 100000 70 [mOr1.v] (addS mOr1 (sN e))) = some [(e, e)] := by kernel_rfl
theorem or2_run (e : TypeId) : memoOk (sN e) mOr2 (acallN C0 100000 55 [.ptr 65 0, .str [108, 111, 119, 101, 114, 45, 97, 108, 112, 104, 97]] (sN e)) = some [(e, e)] := by kernel_rfl
theorem may2_run (e : TypeId) : memoOk (addS mOr2 (sN e)) mMay2 (acallN C0 100000 70 [mOr2.v] (addS mOr2 (sN e))) = some [(e, e)] := by kernel_rfl
theorem or3_run (e : TypeId) : memoOk (sN e) mOr3 (acallN C0 100000 55 [.ptr 65 0, .str [117, 112, 112, 101, 114, 45, 97, 108, 112, 104, 97]] (sN e)) = some [(e, e)] := by kernel_rfl
theorem may3_run (e : TypeId) : memoOk (addS mOr3 (sN e)) mMay3 (acallN C0 100000 70 [mOr3.v] (addS mOr3 (sN e))) = some [(e, e)] := by kernel_rfl
theorem or4_run (e : TypeId) : memoOk (sN e) mOr4 (acallN C0 100000 55 [.ptr 65 0, .str [108, 111, 119, 101, 114, 45, 114, 111, 109, 97, 110]] (sN e)) = some [(e, e)] := by kernel_rfl
theorem may4_run (e : TypeId) : memoOk (addS mOr4 (sN e)) mMay4 (acallN C0 100000 70 [mOr4.v] (addS mOr4 (sN e))) = some [(e, e)] := by kernel_rfl
theorem or5_run (e : TypeId) : memoOk (sN e) mOr5 (acallN C0 100000 55 [.ptr 65 0, .str [117, 112, 112, 101, 114, 45, 114, 111, 109, 97, 110]] (sN e)) = some [(e, e)] := by kernel_rfl
theorem may5_run (e : TypeId) : memoOk (addS mOr5 (sN e)) mMay5 (acallN C0 100000 70 [mOr5.v] (addS mOr5 (sN e))) = some [(e, e)] := by kernel_rfl
theorem or6_run (e : TypeId) : memoOk (sN e) mOr6 (acallN C0 100000 55 [.ptr 65 0, .str [108, 111, 119, 101, 114, 45, 103, 114, 101, 101, 107]] (sN e)) = some [(e, e)] := by kernel_rfl
theorem may6_run (e : TypeId) : memoOk (addS mOr6 (sN e)) mMay6 (acallN C0 100000 70 [mOr6.v] (addS mOr6 (sN e))) = some [(e, e)] := by kernel_rfl
theorem or7_run (e : TypeId) : memoOk (sN e) mOr7 (acallN C0 100000 55 [.ptr 65 0, .str [100, 105, 115, 99]] (sN e)) = some [(e, e)] := by kernel_rfl
theorem may7_run (e : TypeId) : memoOk (addS mOr7 (sN e)) mMay7 (acallN C0 100000 70 [mOr7.v] (addS mOr7 (sN e))) = some [(e, e)] := by kernel_rfl
theorem or8_run (e : TypeId) : memoOk (sN e) mOr8 (acallN C0 100000 55 [.ptr 65 0, .str [99, 105, 114, 99, 108, 101]] (sN e)) = some [(e, e)] := by kernel_rfl
theorem may8_run (e : TypeId) : memoOk (addS mOr8 (sN e)) mMay8 (acallN C0 100000 70 [mOr8.v] (addS mOr8 (sN e))) = some [(e, e)] := by kernel_rfl
theorem or9_run (e : TypeId) : memoOk (sN e) mOr9 (acallN C0 100000 55 [.ptr 65 0, .str [115, 113, 117, 97, 114, 101]] (sN e)) = some [(e, e)] := by kernel_rfl
theorem may9_run (e : TypeId) : memoOk (addS mOr9 (sN e)) mMay9 (acallN C0 100000 70 [mOr9.v] (addS mOr9 (sN e))) = some [(e, e)] := by kernel_rfl
theorem or10_run (e : TypeId) : memoOk (sN e) mOr10 (acallN C0 100000 55 [.ptr 65 0, .str [85, 80, 80, 69, 82, 45, 114, 111, 109, 97, 110]] (sN e)) = some [(e, e)] := by kernel_rfl
theorem may10_run (e : TypeId) : memoOk (addS mOr10 (sN e)) mMay10 (acallN C0 100000 70 [mOr10.v] (addS mOr10 (sN e))) = some [(e, e)] := by kernel_rfl
theorem or11_run (e : TypeId) : memoOk (sN e) mOr11 (acallN C0 100000 55 [.ptr 65 0, .str [110, 111, 110, 101]] (sN e)) = some [(e, e)] := by kernel_rfl
theorem may11_run (e : TypeId) : memoOk (addS mOr11 (sN e)) mMay11 (acallN C0 100000 70 [mOr11.v] (addS mOr11 (sN e))) = some [(e, e)] := by kernel_rfl
end Go.Proofs.Tz
