/- ContentCuts: the given statement. -/
import Derived.Test.YtjnahfpnehmehaaGreatDoorCutsLaw
import Derived.Test.YtjnahfpnehmehaaGreatDoorAwake18
namespace Go.Proofs.YtjnahfpnehmehaaGreatDoor
open Go Go.AE Go.RowKit Go.Proofs Go.Proofs.Tz

theorem contentCuts_sums (f : FuncId) (args : List AV) (st : St) (v : AV) (st' : St) (h : sumL 14 f args st = some (v, st')) : SumOk Tryz.prog f args st v st' := by
  unfold sumL at h
  split at h
  · rename_i hk
    obtain ⟨rfl, rfl, e, hk⟩ := hk
    obtain ⟨rfl, rfl⟩ := Prod.mk.inj (Option.some.inj h)
    exact awake18 hk
  · cases h
/-- ContentCuts, for every input. -/
theorem contentCuts_holds : Rows.ContentCutsCardSaid :=
  cuts_card contentCuts_sums fun n s t _ _ _ e => by
    obtain ⟨v, st', ⟨N, hN⟩, rfl⟩ := cuts_true n t s.data.toList (stG e) ⟨e, fun _ _ h => h⟩ (Nat.le_refl 64)
    exact ⟨N, st', hN N (Nat.le_refl N)⟩
#print axioms contentCuts_holds
end Go.Proofs.YtjnahfpnehmehaaGreatDoor
