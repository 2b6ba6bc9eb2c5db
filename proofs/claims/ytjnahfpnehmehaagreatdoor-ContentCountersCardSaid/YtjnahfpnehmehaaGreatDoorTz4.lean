/- What the evaluator has to answer for a law. -/
import Derived.Test.YtjnahfpnehmehaaGreatDoorTz3
namespace Go.Proofs.Tz
open Go Go.AE Go.RowKit Go.Proofs
/-- The law answers true, from the state of its variables. -/
def Answers (sum : FuncId → List AV → St → Option (AV × St)) (f : FuncId) (args : List AV) : Prop := ∀ e, ∃ n st', acallN (CS sum) n f args (stG e) = some (.bool true, st')
end Go.Proofs.Tz
