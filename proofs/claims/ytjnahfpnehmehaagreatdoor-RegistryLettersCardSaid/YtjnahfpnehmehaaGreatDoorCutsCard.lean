/- ContentCuts: the row and the card, out of the evaluator's answer. -/
import Derived.Test.YtjnahfpnehmehaaGreatDoorTz3
import Derived.Test.YtjnahfpnehmehaaGreatDoorCards
import Derived.Test.YtjnahfpnehmehaaGreatDoorTie
namespace Go.Proofs.Tz
open Go Go.AE Go.RowKit Go.Proofs Go.Proofs.YtjnahfpnehmehaaGreatDoor Go.ChangeShapes Go.WideShapes Go.ChangeAt
set_option maxRecDepth 100000

/-- What the evaluator has to answer. -/
def Answers (sum : FuncId → List AV → St → Option (AV × St)) (f : FuncId) (args : List AV) : Prop := ∀ e, ∃ n st', acallN (CS sum) n f args (stG e) = some (.bool true, st')
theorem cuts_lifted {sum : FuncId → List AV → St → Option (AV × St)} (hsum : ∀ f args st v st', sum f args st = some (v, st') → SumOk Tryz.prog f args st v st')
    (hA : ∀ (n : Int) (s : ByteArray) (t : Int), (Lit.int .i64 n).wf = true → (Lit.int .i64 t).wf = true → s.size ≤ maxLen → Answers sum 3 [.int .i64 n, .str s.data.toList, .int .i64 t])
    (os : Os) (started : os.Started) (H : Type) (enc : TypeId × Value → H) :
    ReturnsInHanded {} Tryz.checked os 3 .any (fun w args => (Rows.contentCutsSpec.pre enc Tryz.prog Tryz.f3 Rows.contentCutsRow.domain false w args ∧ laidMetH Tryz.prog Rows.contentCutsRow.laid w) ∧ sizedMet enc Tryz.prog Tryz.f3 (OpenSpec.ofChange Rows.contentCutsSpec) false w args)
      (Rows.contentCutsSpec.post enc Tryz.prog Tryz.f3 false true false false) := by
  refine returnsInHanded_of_change_and (C := Tryz.checked) (X := fun w _ => laidMetH Tryz.prog Rows.contentCutsRow.laid w) (fun _ _ _ hh h => h.of_heap hh) own started (by kernel_rfl) Tryz.func3
    (ChangeSpec.witness_shaped (enc := enc) (C := Tryz.checked) (os := os) (X := fun w _ => laidMetH Tryz.prog Rows.contentCutsRow.laid w) false (World.laidAll Tryz.prog os Rows.contentCutsRow.laid) #[.int .i64 0, .string ⟨#[]⟩, .int .i64 0] 8 (World.laidAll_os _ _ _)
      (World.shaped_of_ZipB (by kernel_rfl) (by kernel_rfl)) (by kernel_rfl) (by kernel_rfl) (by kernel_rfl)
      (by rw [MakeChecks.laidMetH_plain _ _ _ (by kernel_rfl)]; exact laidMet_laidAll _ (by kernel_rfl) (by kernel_rfl))) ?_
  intro W base args ds gs before hval0 hW hc _ hL _
  have hval : ∀ (j : Nat) t v, Tryz.f3.params[j]? = some t → args[j]? = some v → Value.okWide Tryz.prog W .any base t v := hval0
  have hW' := hW
  obtain ⟨p, q, hA0, hV, rfl, _, _⟩ := hW
  have hAll : DataW.TrodAll enc Tryz.prog W 0 (fun _ => true) true Tryz.f3.params.toList args.toList ds p := hA0
  rw [Tryz.params3] at hAll hval
  obtain ⟨v0, v1, v2, d0, d1, d2, p0, p1, p2, rfl, rfl, rfl, h0, h1, h2⟩ := trodAll_three hAll
  obtain ⟨rfl, _⟩ := trodVars_none hV
  obtain ⟨n, rfl, _, _, wn⟩ := open_int Tryz.underlying3 (hval 0 3 v0 rfl rfl) h0
  obtain ⟨s, rfl, _, _, hs⟩ := Go.ChangeMaps.open_string Tryz.underlying9 (hval 1 9 v1 rfl rfl) h1
  obtain ⟨t, rfl, _, _, wt⟩ := open_int Tryz.underlying3 (hval 2 3 v2 rfl rfl) h2
  obtain ⟨c, hb⟩ : ∃ c, Tryz.f3.body = some c := ⟨_, rfl⟩
  have hcalls := law_calls hsum Tryz.func3 hb (us := [.int .i64 n, .string s, .int .i64 t]) (fun _ _ => RepL.cons (Rep.closed fun _ => rfl) (RepL.cons (Rep.closed fun _ => by simp [conc]) (RepL.cons (Rep.closed fun _ => rfl) RepL.nil))) (hA n s t wn wt hs) hL
  refine hcalls.mono fun r W' ⟨hr, hbe⟩ => ?_
  subst hr
  exact ⟨_, rfl, law_post rfl rfl (by kernel_rfl) (by kernel_rfl) hW' hbe⟩
theorem cuts_holds {sum : FuncId → List AV → St → Option (AV × St)} (hsum : ∀ f args st v st', sum f args st = some (v, st') → SumOk Tryz.prog f args st v st')
    (hA : ∀ (n : Int) (s : ByteArray) (t : Int), (Lit.int .i64 n).wf = true → (Lit.int .i64 t).wf = true → s.size ≤ maxLen → Answers sum 3 [.int .i64 n, .str s.data.toList, .int .i64 t]) : Rows.ContentCutsSaid :=
  OpenClaim.holds_of_wide 3 Tryz.f3 rfl rfl rfl rfl rfl rfl rfl ⟨rfl, rfl, rfl, rfl, rfl⟩ rfl rfl rfl rfl rfl (by kernel_rfl) Tryz.func3 (by kernel_rfl)
    (of_decide_eq_true (by kernel_rfl)) (by unfold Func.isWrapper; first | (rw [if_pos (by decide +kernel)]; kernel_rfl) | (rw [if_neg (by decide +kernel)]; exact ⟨rfl, rfl⟩))
    (fun os started H enc _ => cuts_lifted hsum hA os started H enc)
theorem cuts_card {sum : FuncId → List AV → St → Option (AV × St)} (hsum : ∀ f args st v st', sum f args st = some (v, st') → SumOk Tryz.prog f args st v st')
    (hA : ∀ (n : Int) (s : ByteArray) (t : Int), (Lit.int .i64 n).wf = true → (Lit.int .i64 t).wf = true → s.size ≤ maxLen → Answers sum 3 [.int .i64 n, .str s.data.toList, .int .i64 t]) : Rows.ContentCutsCardSaid :=
  Claim7.holds_tied_plain_at .later [] [.data, .listed, .data, .pinned, .pinned] true (true, "42d9bcd8abba7e7dc589b9990cabdf14f96a5428a39f3d8e27f121bf63d63c59") false (cuts_holds hsum hA) (fun _ h => by cases h) (by kernel_rfl) (fun _ h => by cases h) contentCuts_row_tie rfl ⟨rfl, rfl⟩ (by kernel_rfl) rfl
    (fun f fn hf hfn => by
      obtain rfl : f = 3 := Option.some.inj ((show Tryz.prog.funcNamed "fleuron/fleuronlaw18.ContentCuts" = some 3 by kernel_rfl).symm.trans hf) |>.symm
      obtain rfl : fn = Tryz.f3 := (Option.some.inj (Tryz.func3.symm.trans hfn)).symm
      exact ⟨by kernel_rfl, fun j t ht => by
        rw [Tryz.params3] at ht
        have hm : t ∈ [3, 9, 3] := by simpa using Array.mem_of_getElem? ht
        have hall : ([3, 9, 3].all fun u => !Tryz.prog.wantsStandIn u) = true := by kernel_rfl
        exact (show Tryz.prog.wantsStandIn t = false by simpa using List.all_eq_true.1 hall t hm)⟩)
    (by kernel_rfl)
end Go.Proofs.Tz
