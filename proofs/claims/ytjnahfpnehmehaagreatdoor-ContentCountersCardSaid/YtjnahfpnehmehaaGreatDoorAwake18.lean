/- The package of chapter 18 is awake: its closed run, by the kernel. -/
import Derived.Test.YtjnahfpnehmehaaGreatDoorAwake18Run
import Derived.Test.YtjnahfpnehmehaaGreatDoorCutsPlain
import Derived.Test.YtjnahfpnehmehaaGreatDoorAeF
import Derived.Test.YtjnahfpnehmehaaGreatDoorTz2
import Derived.Test.YtjnahfpnehmehaaGreatDoorTz5
namespace Go.Proofs.Tz
open Go Go.AE Go.RowKit Go.Proofs
set_option maxRecDepth 1000000

theorem stE_base : Base0 stE := ⟨rfl, fun _ => rfl, fun _ _ h => by cases h⟩
theorem stE_known (st : St) : Knows stE st := fun _ _ h => by cases h

theorem rep_eq (n : Nat) (a : UInt8) : rep n [a] = List.replicate n a := by
  induction n with
  | zero => rfl
  | succ n ih => rw [rep, ih]; rfl
theorem gs_one (n : Nat) (a : UInt8) : gs n [a] = List.replicate n a := by
  induction n with
  | zero => rfl
  | succ n ih => rw [gs_succ, ih]; rfl
theorem sumCutK_ok (f : FuncId) (args : List AV) (st : St) (v : AV) (st' : St) (h : sumCutK f args st = some (v, st')) : SumOk Tryz.prog f args st v st' := by
  unfold sumCutK at h
  rw [cnd_eq] at h
  obtain ⟨hf, h⟩ := h
  obtain rfl := beq_true.1 hf
  unfold cutK at h
  split at h
  · rename_i s
    rw [cnd_eq] at h
    obtain ⟨hs, h⟩ := h
    rw [eqL_eq, decide_eq_true_eq] at hs
    obtain ⟨rfl, rfl⟩ := Prod.mk.inj (Option.some.inj h)
    subst hs
    have hgs : (rep 2001 [0] : List UInt8) = List.replicate 0 120 ++ gs 2001 [0] := by rw [rep_eq, gs_one]; rfl
    have hlen : (rep 2001 [0] : List UInt8).length = 2001 := by rw [rep_eq]; simp
    have hL : lastAt ((rep 2001 [0] : List UInt8).length + 1) (rep 2001 [0]) 0 0 = 2000 := by
      rw [hgs, lastAt_all (w := 1) (Nat.le_refl 1) (g := [0]) rfl (fun k => dec8_one 0 k) (t := 0) (n := 2001) (by omega) (by omega)]
    have htake : (rep 2001 [0] : List UInt8).take 2000 = rep 2000 [0] := by rw [rep_eq, rep_eq, List.take_replicate]; rfl
    obtain ⟨v, s1, ⟨N, hN⟩, hv, _⟩ := cut_long (sum := fun _ _ _ => none) (fun _ _ => rfl) (rep 2001 [0]) (by rw [hlen]; omega) (by rw [hL, hlen]; omega) stE
    rw [hL, htake] at hv
    subst hv
    exact pure_sum ctxOk0 mixed Tryz.func17 body17 (n := N) (fun _ _ => by simp [concL, conc]) (fun _ _ => by simp [conc, concL]) stE_base (hN N (Nat.le_refl _)) (stE_known _)
  · cases h
theorem body14 : Tryz.f14.body = some (Tryz.f14.body.get!) := by kernel_rfl
theorem awake18 {st : St} {e : TypeId} (h : Knows (stG e) st) : SumOk Tryz.prog 14 [] st (.bool true) st := by
  obtain ⟨s1, h1⟩ := yes_spec (awake18_run e)
  exact pure_sum (ctxOk sumCutK_ok) mixed Tryz.func14 body14 (fun _ _ => rfl) (fun _ _ => rfl) (stG_base e) h1 h
end Go.Proofs.Tz
