/- The state of the program's variables: what is known of it, wherever it is met. -/
import Derived.Test.YtjnahfpnehmehaaGreatDoorAeF
import Derived.Test.YtjnahfpnehmehaaGreatDoorAeG
import Derived.Test.YtjnahfpnehmehaaGreatDoorTz2
namespace Go.Proofs.Tz
open Go Go.AE Go.RowKit Go.Proofs
set_option maxRecDepth 1000000

theorem stG_base (e : TypeId) : Base0 (stG e) := by
  refine ⟨rfl, fun f => rfl, fun b o hb => ?_⟩
  rw [stG_get] at hb
  by_cases e0 : b = 0
  · rw [if_pos e0] at hb
    obtain rfl := Option.some.inj hb
    refine ⟨by omega, _, rfl, rfl, fun i l hl a ha => ?_⟩
    have hl : spaceT.get i = some l := hl
    unfold spaceT at hl
    rw [spaceEls, setEls_get] at hl
    split at hl
    · rw [List.getElem?_map] at hl
      cases hz : spaceZ[i - 0]? with
      | none => rw [hz] at hl; cases hl
      | some z =>
        rw [hz] at hl
        obtain rfl := Option.some.inj hl
        obtain rfl := List.mem_singleton.1 ha
        exact fun _ _ => rfl
    · cases hl
  · rw [if_neg e0] at hb; cases hb
theorem yes_spec {r : Option (AV × St)} (h : yesB r = true) : ∃ s1, r = some (.bool true, s1) := by
  unfold yesB at h
  split at h
  · rename_i b s
    exact ⟨s, by rw [h]⟩
  · cases h
/-- The variables are known. -/
def KnowsG (st : St) : Prop := ∃ e, Knows (stG e) st
theorem KnowsG.ext {st st' : St} (h : KnowsG st) (k : Ext st st') (h64 : 64 ≤ st.next) : KnowsG st' := by
  obtain ⟨e, h⟩ := h
  refine ⟨e, fun b o hb => ?_⟩
  have := hb
  rw [stG_get] at this
  by_cases e0 : b = 0
  · rw [k.heap b (by omega)]; exact h b o hb
  · rw [if_neg e0] at this; cases this
theorem iltb_t {a b : Int} (h : a < b) : iltb a b = true := by rw [iltb_eq]; exact decide_eq_true h
theorem iltb_f {a b : Int} (h : ¬ a < b) : iltb a b = false := by rw [iltb_eq]; exact decide_eq_false h
end Go.Proofs.Tz
