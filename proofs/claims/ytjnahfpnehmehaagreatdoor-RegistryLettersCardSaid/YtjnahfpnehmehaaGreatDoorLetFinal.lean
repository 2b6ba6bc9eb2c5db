/- RegistryLetters: the given statement, for every input, without a condition. -/
import Derived.Test.YtjnahfpnehmehaaGreatDoorLetLaw
import Derived.Test.YtjnahfpnehmehaaGreatDoorLetCard
import Derived.Test.YtjnahfpnehmehaaGreatDoorAwake11
namespace Go.Proofs.YtjnahfpnehmehaaGreatDoor
open Go Go.AE Go.RowKit Go.Proofs Go.Proofs.Tz

theorem xa11 (f : FuncId) (xs : List AV) (st : St) (r : AV × St) (h : XA 27 f xs st r) : SumOk Tryz.prog f xs st r.1 r.2 := by
  obtain ⟨rfl, rfl, ⟨e, hk⟩, rfl⟩ := h
  exact awake11 hk
theorem answers_of {sum : FuncId → List AV → St → Option (AV × St)} {f : FuncId} {args : List AV} (h : ∀ e, CallW (CS sum) f args (stG e) fun v _ => v = .bool true) : Answers sum f args := fun e => by
  obtain ⟨v, st', ⟨N, hN⟩, rfl⟩ := h e
  exact ⟨N, st', hN N (Nat.le_refl N)⟩
/-- RegistryLetters, for every input. -/
theorem registryLetters_holds : Rows.RegistryLettersCardSaid :=
  registryLetters_card (sumK_ok xa11) fun n u w => answers_of fun e => let_true n u (bounds_i64 w).1 (bounds_i64 w).2 e
#print axioms registryLetters_holds
end Go.Proofs.YtjnahfpnehmehaaGreatDoor
