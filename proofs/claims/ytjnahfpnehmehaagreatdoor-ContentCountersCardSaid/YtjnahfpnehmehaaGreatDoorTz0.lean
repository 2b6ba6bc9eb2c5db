/- The abstract evaluator at the program: what it is run with. -/
import Derived.Test.YtjnahfpnehmehaaGreatDoorAeA
import Derived.Test.YtjnahfpnehmehaaGreatDoorProg
import Derived.KernelRfl
namespace Go.Proofs.Tz
open Go Go.AE Go.Proofs

noncomputable def ext (f : FuncId) : ExtKind := cnd (Nat.beq f 117) .noEscape (cnd (Nat.beq f 165) .makeNoZero .none)
/-- The program, with summaries. -/
noncomputable def CS (sum : FuncId → List AV → St → Option (AV × St)) : Ctx := ⟨Tryz.prog, ext, sum⟩
noncomputable def C0 : Ctx := CS fun _ _ _ => none

noncomputable def spaceT : T (List AV) := setEls .nil 0 ((rep 9 [[AV.int .u8 0]]) ++ rep 5 [[AV.int .u8 1]] ++ rep 18 [[AV.int .u8 0]] ++ [[AV.int .u8 1]] ++ rep 223 [[AV.int .u8 0]])
/-- The program's variables, as they are read: strings.asciiSpace. -/
noncomputable def stG (e : TypeId) : St := ⟨T.nil.set 0 (.cells ⟨e, 1, spaceT, 256, 256, .ro⟩), .nil, 64⟩
/-- A state that knows nothing. -/
noncomputable def stE : St := ⟨.nil, .nil, 64⟩
noncomputable def cutK (args : List AV) (st : St) : Option (AV × St) := match args with
  | [.str s] => cnd (eqL s (rep 2001 [0])) (some (.tup [.str (rep 2000 [0]), .bool true], st)) none
  | _ => none
/-- content.Cut at a text that is cut: 2001 times the sign 0. -/
noncomputable def sumCutK (f : FuncId) (args : List AV) (st : St) : Option (AV × St) := cnd (Nat.beq f 17) (cutK args st) none
noncomputable def yesB (r : Option (AV × St)) : Bool := match r with
  | some (.bool b, _) => b
  | _ => false
end Go.Proofs.Tz
