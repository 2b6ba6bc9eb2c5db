/- RegistryRoman: the given statement, for every input, without a condition. -/
import Derived.Test.YtjnahfpnehmehaaGreatDoorRomLaw
import Derived.Test.YtjnahfpnehmehaaGreatDoorRomCard
import Derived.Test.YtjnahfpnehmehaaGreatDoorAwake11
namespace Go.Proofs.YtjnahfpnehmehaaGreatDoor
open Go Go.AE Go.RowKit Go.Proofs Go.Proofs.Tz

theorem xa11r (f : FuncId) (xs : List AV) (st : St) (r : AV × St) (h : XA 27 f xs st r) : SumOk Tryz.prog f xs st r.1 r.2 := by
  obtain ⟨rfl, rfl, ⟨e, hk⟩, rfl⟩ := h
  exact awake11 hk
theorem answers_ofr {sum : FuncId → List AV → St → Option (AV × St)} {f : FuncId} {args : List AV} (h : ∀ e, CallW (CS sum) f args (stG e) fun v _ => v = .bool true) : Answers sum f args := fun e => by
  obtain ⟨v, st', ⟨N, hN⟩, rfl⟩ := h e
  exact ⟨N, st', hN N (Nat.le_refl N)⟩
/-- RegistryRoman, for every input. -/
theorem registryRoman_holds : Rows.RegistryRomanCardSaid :=
  registryRoman_card (sumK_ok xa11r) fun n u w => answers_ofr fun e => rom_true n u (bounds_i64 w).1 (bounds_i64 w).2 e
#print axioms registryRoman_holds
end Go.Proofs.YtjnahfpnehmehaaGreatDoor
