/- The abstract evaluator at the program: what stands beside it, and the state of its variables. -/
import Derived.Test.YtjnahfpnehmehaaGreatDoorTz0
import Derived.Test.YtjnahfpnehmehaaGreatDoorAeF
import Derived.Test.YtjnahfpnehmehaaGreatDoorRows
import Derived.KernelRfl
import Derived.Lib.LaidTab
import Derived.LaidLaws
import Derived.LaidMore
namespace Go.Proofs.Tz
open Go Go.AE Go.RowKit Go.Proofs Go.Proofs.YtjnahfpnehmehaaGreatDoor
set_option maxRecDepth 100000

theorem mixed : Tryz.prog.follows .mixedOrders = true := by kernel_rfl
theorem noNumB : (Tryz.prog.funcs.toList.all fun fn => !(fn.name == "runtime.NumGoroutine")) = true := by kernel_rfl
theorem find117 : Extern.find Tryz.f117 = some Extern.AbiNoEscape.same := by kernel_rfl
theorem next117 : Extern.findNext Tryz.f117 = none := by kernel_rfl
theorem find165 : Extern.find Tryz.f165 = some (Extern.BytealgMakeNoZero.makeNoZero Tryz.f165.params Tryz.f165.resultTypes) := by kernel_rfl
theorem next165 : Extern.findNext Tryz.f165 = none := by kernel_rfl
theorem ctxOk {sum : FuncId → List AV → St → Option (AV × St)} (hs : ∀ f args st v st', sum f args st = some (v, st') → SumOk Tryz.prog f args st v st') : CtxOk (CS sum) := by
  refine ⟨fun f fn hf => ?_, fun f fn hf hb he => ?_, hs⟩
  · have := List.all_eq_true.1 noNumB fn (by
      have hf : Tryz.prog.funcs[f]? = some fn := hf
      rw [← Array.getElem?_toList] at hf
      exact List.mem_of_getElem? hf)
    simpa using this
  · have hf : Tryz.prog.funcs[f]? = some fn := hf
    show Extern.findNext fn = none ∧ ∃ e, Extern.find fn = some e ∧ ExtSem fn (ext f) e
    have he : ext f ≠ .none := he
    unfold ext at he ⊢
    by_cases h1 : f = 117
    · subst h1
      obtain rfl := Option.some.inj (Tryz.func117.symm.trans hf)
      exact ⟨next117, _, find117, rfl⟩
    · by_cases h2 : f = 165
      · subst h2
        obtain rfl := Option.some.inj (Tryz.func165.symm.trans hf)
        exact ⟨next165, _, find165, rfl⟩
      · have e1 : Nat.beq f 117 = false := by
          cases hb : Nat.beq f 117 with
          | false => rfl
          | true => exact absurd (Nat.eq_of_beq_eq_true hb) h1
        have e2 : Nat.beq f 165 = false := by
          cases hb : Nat.beq f 165 with
          | false => rfl
          | true => exact absurd (Nat.eq_of_beq_eq_true hb) h2
        rw [e1, e2] at he
        exact absurd rfl he
theorem ctxOk0 : CtxOk C0 := ctxOk fun _ _ _ _ _ h => by cases h

/-- strings.asciiSpace: its numbers. -/
def spaceZ : List Int := List.replicate 9 0 ++ List.replicate 5 1 ++ List.replicate 18 0 ++ [1] ++ List.replicate 223 0
theorem spaceEls : (rep 9 [[AV.int .u8 0]]) ++ rep 5 [[AV.int .u8 1]] ++ rep 18 [[AV.int .u8 0]] ++ [[AV.int .u8 1]] ++ rep 223 [[AV.int .u8 0]] = spaceZ.map fun z => [AV.int .u8 z] := by kernel_rfl
theorem spaceLaid : (Rows.laid_strings_asciiSpace : DataW Unit) = Lib.tabData .u8 spaceZ := by kernel_rfl
theorem spaceLen : spaceZ.length = 256 := by kernel_rfl
end Go.Proofs.Tz
