/- RegistryRoman: the row and the card, out of the evaluator's answer. -/
import Derived.Test.YtjnahfpnehmehaaGreatDoorTz4
import Derived.Test.YtjnahfpnehmehaaGreatDoorCards
import Derived.Test.YtjnahfpnehmehaaGreatDoorTie
namespace Go.Proofs.Tz
open Go Go.AE Go.RowKit Go.Proofs Go.Proofs.YtjnahfpnehmehaaGreatDoor Go.ChangeShapes Go.WideShapes Go.ChangeAt
set_option maxRecDepth 100000

theorem registryRoman_lifted {sum : FuncId → List AV → St → Option (AV × St)} (hsum : ∀ f args st v st', sum f args st = some (v, st') → SumOk Tryz.prog f args st v st')
    (hA : ∀ (x0 : Int) (x1 : Bool), (Lit.int .i64 x0).wf = true → Answers sum 7 [.int .i64 x0, .bool x1])
    (os : Os) (started : os.Started) (H : Type) (enc : TypeId × Value → H) :
    ReturnsInHanded {} Tryz.checked os 7 .any (fun w args => (Rows.registryRomanSpec.pre enc Tryz.prog Tryz.f7 Rows.registryRomanRow.domain false w args ∧ laidMetH Tryz.prog Rows.registryRomanRow.laid w) ∧ sizedMet enc Tryz.prog Tryz.f7 (OpenSpec.ofChange Rows.registryRomanSpec) false w args)
      (Rows.registryRomanSpec.post enc Tryz.prog Tryz.f7 false true false false) := by
  refine returnsInHanded_of_change_and (C := Tryz.checked) (X := fun w _ => laidMetH Tryz.prog Rows.registryRomanRow.laid w) (fun _ _ _ hh h => h.of_heap hh) own started (by kernel_rfl) Tryz.func7
    (ChangeSpec.witness_shaped (enc := enc) (C := Tryz.checked) (os := os) (X := fun w _ => laidMetH Tryz.prog Rows.registryRomanRow.laid w) false (World.laidAll Tryz.prog os Rows.registryRomanRow.laid) #[.int .i64 0, .bool false] 8 (World.laidAll_os _ _ _)
      (World.shaped_of_ZipB (by kernel_rfl) (by kernel_rfl)) (by kernel_rfl) (by kernel_rfl) (by kernel_rfl)
      (by rw [MakeChecks.laidMetH_plain _ _ _ (by kernel_rfl)]; exact laidMet_laidAll _ (by kernel_rfl) (by kernel_rfl))) ?_
  intro W base args ds gs before hval0 hW hc _ hL _
  have hval : ∀ (j : Nat) t v, Tryz.f7.params[j]? = some t → args[j]? = some v → Value.okWide Tryz.prog W .any base t v := hval0
  have hW' := hW
  obtain ⟨p, q, hA0, hV, rfl, _, _⟩ := hW
  have hAll : DataW.TrodAll enc Tryz.prog W 0 (fun _ => true) true Tryz.f7.params.toList args.toList ds p := hA0
  rw [Tryz.params7] at hAll hval
  obtain ⟨v0, v1, d0, d1, p0, p1, rfl, rfl, rfl, h0, h1⟩ := trodAll_two hAll
  obtain ⟨rfl, _⟩ := trodVars_none hV
  obtain ⟨x0, rfl, _, _, w0⟩ := open_int Tryz.underlying3 (hval 0 3 v0 rfl rfl) h0
  obtain ⟨x1, rfl, _, _⟩ := open_bool Tryz.underlying4 (hval 1 4 v1 rfl rfl) h1
  obtain ⟨c, hb⟩ : ∃ c, Tryz.f7.body = some c := ⟨_, rfl⟩
  have hcalls := law_calls hsum Tryz.func7 hb (us := [.int .i64 x0, .bool x1]) (fun _ _ => RepL.cons (Rep.closed fun _ => rfl) (RepL.cons (Rep.closed fun _ => rfl) RepL.nil)) (hA x0 x1 w0) hL
  refine hcalls.mono fun r W' ⟨hr, hbe⟩ => ?_
  subst hr
  exact ⟨_, rfl, law_post rfl rfl (by kernel_rfl) (by kernel_rfl) hW' hbe⟩
theorem registryRoman_row {sum : FuncId → List AV → St → Option (AV × St)} (hsum : ∀ f args st v st', sum f args st = some (v, st') → SumOk Tryz.prog f args st v st')
    (hA : ∀ (x0 : Int) (x1 : Bool), (Lit.int .i64 x0).wf = true → Answers sum 7 [.int .i64 x0, .bool x1]) : Rows.RegistryRomanSaid :=
  OpenClaim.holds_of_wide 7 Tryz.f7 rfl rfl rfl rfl rfl rfl rfl ⟨rfl, rfl, rfl, rfl, rfl⟩ rfl rfl rfl rfl rfl (by kernel_rfl) Tryz.func7 (by kernel_rfl)
    (of_decide_eq_true (by kernel_rfl)) (by unfold Func.isWrapper; first | (rw [if_pos (by decide +kernel)]; kernel_rfl) | (rw [if_neg (by decide +kernel)]; exact ⟨rfl, rfl⟩))
    (fun os started H enc _ => registryRoman_lifted hsum hA os started H enc)
theorem registryRoman_card {sum : FuncId → List AV → St → Option (AV × St)} (hsum : ∀ f args st v st', sum f args st = some (v, st') → SumOk Tryz.prog f args st v st')
    (hA : ∀ (x0 : Int) (x1 : Bool), (Lit.int .i64 x0).wf = true → Answers sum 7 [.int .i64 x0, .bool x1]) : Rows.RegistryRomanCardSaid :=
  Claim7.holds_tied_plain_at .later [] [.data, .listed, .data, .pinned, .pinned] true (true, "42d9bcd8abba7e7dc589b9990cabdf14f96a5428a39f3d8e27f121bf63d63c59") false (registryRoman_row hsum hA) (fun _ h => by cases h) (by kernel_rfl) (fun _ h => by cases h) registryRoman_row_tie rfl ⟨rfl, rfl⟩ (by kernel_rfl) rfl
    (fun f fn hf hfn => by
      obtain rfl : f = 7 := Option.some.inj ((show Tryz.prog.funcNamed "fleuron/fleuronlaw11.RegistryRoman" = some 7 by kernel_rfl).symm.trans hf) |>.symm
      obtain rfl : fn = Tryz.f7 := (Option.some.inj (Tryz.func7.symm.trans hfn)).symm
      exact ⟨by kernel_rfl, fun j t ht => by
        rw [Tryz.params7] at ht
        have hm : t ∈ [3, 4] := by simpa using Array.mem_of_getElem? ht
        have hall : ([3, 4].all fun u => !Tryz.prog.wantsStandIn u) = true := by kernel_rfl
        exact (show Tryz.prog.wantsStandIn t = false by simpa using List.all_eq_true.1 hall t hm)⟩)
    (by kernel_rfl)
end Go.Proofs.Tz
