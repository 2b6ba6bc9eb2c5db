/- Chapter 11's package is awake, wherever its variables are known. -/
import Derived.Test.YtjnahfpnehmehaaGreatDoorAw11Run0
import Derived.Test.YtjnahfpnehmehaaGreatDoorAw11Run1
import Derived.Test.YtjnahfpnehmehaaGreatDoorAw11Run2
import Derived.Test.YtjnahfpnehmehaaGreatDoorAw11Run3
import Derived.Test.YtjnahfpnehmehaaGreatDoorAw11Run4
import Derived.Test.YtjnahfpnehmehaaGreatDoorLaw11Run
import Derived.Test.YtjnahfpnehmehaaGreatDoorRegRun
import Derived.Test.YtjnahfpnehmehaaGreatDoorRegK
import Derived.Test.YtjnahfpnehmehaaGreatDoorRegC
namespace Go.Proofs.Tz
open Go Go.AE Go.RowKit Go.Proofs
set_option maxRecDepth 100000
theorem var0 : Var0 stG spaceT := ⟨stG_low, fun _ => rfl, fun _ _ => rfl, fun e b o hb => by
  rw [stG_get] at hb
  by_cases e1 : b = 0
  · rw [if_pos e1] at hb; exact ⟨e1, (Option.some.inj hb).symm⟩
  · rw [if_neg e1] at hb; cases hb⟩
theorem one_pair {e : TypeId} {x : Option (List (Nat × Nat))} (h : x = some [(e, e)]) : ∃ L, x = some L ∧ ∀ p ∈ L, p.1 = p.2 := ⟨_, h, pairs_ee⟩
theorem ctxE {es : List Entry} (h : ∀ en ∈ es, en.Ok Tryz.prog stG) : CtxOk (CS (sumE spaceT es)) := ctxOk (sumE_ok var0 mixed h)
theorem body63 : Tryz.f63.body = some (Tryz.f63.body.get!) := by kernel_rfl
theorem body28 : Tryz.f28.body = some (Tryz.f28.body.get!) := by kernel_rfl
theorem body31 : Tryz.f31.body = some (Tryz.f31.body.get!) := by kernel_rfl
theorem body30 : Tryz.f30.body = some (Tryz.f30.body.get!) := by kernel_rfl
theorem body29 : Tryz.f29.body = some (Tryz.f29.body.get!) := by kernel_rfl
theorem body34 : Tryz.f34.body = some (Tryz.f34.body.get!) := by kernel_rfl
theorem eFd_ok : eFd.Ok Tryz.prog stG := ⟨by kernel_rfl, by kernel_rfl, ⟨_, _, Tryz.func63, body63⟩, C0, rfl, ctxOk0, 100000, fun e => one_pair (eFd_run e)⟩
theorem eFl_ok : eFl.Ok Tryz.prog stG := ⟨by kernel_rfl, by kernel_rfl, ⟨_, _, Tryz.func63, body63⟩, C0, rfl, ctxOk0, 100000, fun e => one_pair (eFl_run e)⟩
theorem eFL_ok : eFL.Ok Tryz.prog stG := ⟨by kernel_rfl, by kernel_rfl, ⟨_, _, Tryz.func63, body63⟩, C0, rfl, ctxOk0, 100000, fun e => one_pair (eFL_run e)⟩
theorem eFr_ok : eFr.Ok Tryz.prog stG := ⟨by kernel_rfl, by kernel_rfl, ⟨_, _, Tryz.func63, body63⟩, C0, rfl, ctxOk0, 100000, fun e => one_pair (eFr_run e)⟩
theorem eFR_ok : eFR.Ok Tryz.prog stG := ⟨by kernel_rfl, by kernel_rfl, ⟨_, _, Tryz.func63, body63⟩, C0, rfl, ctxOk0, 100000, fun e => one_pair (eFR_run e)⟩
theorem eFo_ok : eFo.Ok Tryz.prog stG := ⟨by kernel_rfl, by kernel_rfl, ⟨_, _, Tryz.func63, body63⟩, C0, rfl, ctxOk0, 100000, fun e => one_pair (eFo_run e)⟩
theorem eFf_ok : eFf.Ok Tryz.prog stG := ⟨by kernel_rfl, by kernel_rfl, ⟨_, _, Tryz.func63, body63⟩, C0, rfl, ctxOk0, 100000, fun e => one_pair (eFf_run e)⟩
theorem eFk_ok : eFk.Ok Tryz.prog stG := ⟨by kernel_rfl, by kernel_rfl, ⟨_, _, Tryz.func63, body63⟩, C0, rfl, ctxOk0, 100000, fun e => one_pair (eFk_run e)⟩
theorem eFp_ok : eFp.Ok Tryz.prog stG := ⟨by kernel_rfl, by kernel_rfl, ⟨_, _, Tryz.func63, body63⟩, C0, rfl, ctxOk0, 100000, fun e => one_pair (eFp_run e)⟩
theorem fields_ok : ∀ en ∈ fields, en.Ok Tryz.prog stG := by
  intro en h
  simp only [fields, List.mem_cons, List.not_mem_nil, or_false] at h
  rcases h with rfl | rfl | rfl | rfl | rfl | rfl | rfl | rfl | rfl
  · exact eFd_ok
  · exact eFl_ok
  · exact eFL_ok
  · exact eFr_ok
  · exact eFR_ok
  · exact eFo_ok
  · exact eFf_ok
  · exact eFk_ok
  · exact eFp_ok
theorem eNew_ok : eNew.Ok Tryz.prog stG := ⟨by kernel_rfl, by kernel_rfl, ⟨_, _, Tryz.func19, body19⟩, C0, rfl, ctxOk0, 100000, fun e => one_pair (mNew_run e)⟩
theorem eSheet11_ok : eSheet11.Ok Tryz.prog stG := ⟨by kernel_rfl, by kernel_rfl, ⟨_, _, Tryz.func28, body28⟩, C0, rfl, ctxOk0, 100000, fun e => one_pair (mSheet11_run e)⟩
theorem eNew11_ok : eNew11.Ok Tryz.prog stG := ⟨by kernel_rfl, by kernel_rfl, ⟨_, _, Tryz.func19, body19⟩, CS (sumE spaceT fields), rfl, ctxE fields_ok, 100000, fun e => one_pair (eNew11_run e)⟩
theorem eA0_ok : eA0.Ok Tryz.prog stG := ⟨by kernel_rfl, by kernel_rfl, ⟨_, _, Tryz.func31, body31⟩, CS (sumE spaceT fields), rfl, ctxE fields_ok, 100000, fun e => one_pair (eA0_run e)⟩
theorem eA1_ok : eA1.Ok Tryz.prog stG := ⟨by kernel_rfl, by kernel_rfl, ⟨_, _, Tryz.func31, body31⟩, CS (sumE spaceT fields), rfl, ctxE fields_ok, 100000, fun e => one_pair (eA1_run e)⟩
theorem eA2_ok : eA2.Ok Tryz.prog stG := ⟨by kernel_rfl, by kernel_rfl, ⟨_, _, Tryz.func23, body23⟩, CS (sumE spaceT fields), rfl, ctxE fields_ok, 100000, fun e => one_pair (eA2_run e)⟩
theorem eA3_ok : eA3.Ok Tryz.prog stG := ⟨by kernel_rfl, by kernel_rfl, ⟨_, _, Tryz.func23, body23⟩, CS (sumE spaceT fields), rfl, ctxE fields_ok, 100000, fun e => one_pair (eA3_run e)⟩
theorem eA4_ok : eA4.Ok Tryz.prog stG := ⟨by kernel_rfl, by kernel_rfl, ⟨_, _, Tryz.func23, body23⟩, CS (sumE spaceT fields), rfl, ctxE fields_ok, 100000, fun e => one_pair (eA4_run e)⟩
theorem eA5_ok : eA5.Ok Tryz.prog stG := ⟨by kernel_rfl, by kernel_rfl, ⟨_, _, Tryz.func30, body30⟩, CS (sumE spaceT fields), rfl, ctxE fields_ok, 100000, fun e => one_pair (eA5_run e)⟩
theorem eA6_ok : eA6.Ok Tryz.prog stG := ⟨by kernel_rfl, by kernel_rfl, ⟨_, _, Tryz.func23, body23⟩, CS (sumE spaceT fields), rfl, ctxE fields_ok, 100000, fun e => one_pair (eA6_run e)⟩
theorem eA7_ok : eA7.Ok Tryz.prog stG := ⟨by kernel_rfl, by kernel_rfl, ⟨_, _, Tryz.func23, body23⟩, CS (sumE spaceT fields), rfl, ctxE fields_ok, 100000, fun e => one_pair (eA7_run e)⟩
theorem eA8_ok : eA8.Ok Tryz.prog stG := ⟨by kernel_rfl, by kernel_rfl, ⟨_, _, Tryz.func30, body30⟩, CS (sumE spaceT fields), rfl, ctxE fields_ok, 100000, fun e => one_pair (eA8_run e)⟩
theorem eA9_ok : eA9.Ok Tryz.prog stG := ⟨by kernel_rfl, by kernel_rfl, ⟨_, _, Tryz.func23, body23⟩, CS (sumE spaceT fields), rfl, ctxE fields_ok, 100000, fun e => one_pair (eA9_run e)⟩
theorem eA10_ok : eA10.Ok Tryz.prog stG := ⟨by kernel_rfl, by kernel_rfl, ⟨_, _, Tryz.func23, body23⟩, CS (sumE spaceT fields), rfl, ctxE fields_ok, 100000, fun e => one_pair (eA10_run e)⟩
theorem eA11_ok : eA11.Ok Tryz.prog stG := ⟨by kernel_rfl, by kernel_rfl, ⟨_, _, Tryz.func29, body29⟩, CS (sumE spaceT fields), rfl, ctxE fields_ok, 100000, fun e => one_pair (eA11_run e)⟩
theorem newf_ok : ∀ en ∈ eNew :: fields, en.Ok Tryz.prog stG := fun en h => (List.mem_cons.1 h).elim (fun h => by rw [h]; exact eNew_ok) (fields_ok en)
theorem eNil_ok : eNil.Ok Tryz.prog stG := ⟨by kernel_rfl, by kernel_rfl, ⟨_, _, Tryz.func23, body23⟩, CS (sumE spaceT (eNew :: fields)), rfl, ctxE newf_ok, 100000, fun e => one_pair (eNil_run e)⟩
theorem eOwn_ok : eOwn.Ok Tryz.prog stG := ⟨by kernel_rfl, by kernel_rfl, ⟨_, _, Tryz.func34, body34⟩, CS (sumE spaceT fields), rfl, ctxE fields_ok, 100000, fun e => one_pair (eOwn_run e)⟩
theorem asks11_ok : ∀ en ∈ asks11, en.Ok Tryz.prog stG := by
  intro en h
  simp only [asks11, List.mem_cons, List.not_mem_nil, or_false] at h
  rcases h with rfl | rfl | rfl | rfl | rfl | rfl | rfl | rfl | rfl | rfl | rfl | rfl | rfl | rfl | rfl | rfl
  · exact eSheet11_ok
  · exact eNew11_ok
  · exact eA0_ok
  · exact eA1_ok
  · exact eA2_ok
  · exact eA3_ok
  · exact eA4_ok
  · exact eA5_ok
  · exact eA6_ok
  · exact eA7_ok
  · exact eA8_ok
  · exact eA9_ok
  · exact eA10_ok
  · exact eA11_ok
  · exact eNil_ok
  · exact eOwn_ok
theorem body27 : Tryz.f27.body = some (Tryz.f27.body.get!) := by kernel_rfl
theorem awake11 {st : St} {e : TypeId} (h : Knows (stG e) st) : SumOk Tryz.prog 27 [] st (.bool true) st := by
  obtain ⟨s1, h1⟩ := yes_spec (awake11_run e)
  exact pure_sum (ctxE asks11_ok) mixed Tryz.func27 body27 (fun _ _ => rfl) (fun _ _ => rfl) (stG_base e) h1 h
end Go.Proofs.Tz
