/- ContentCounters: the row and the card, out of the evaluator's answer. -/
import Derived.Test.YtjnahfpnehmehaaGreatDoorTzOpen
namespace Go.Proofs.Tz
open Go Go.AE Go.RowKit Go.Proofs Go.Proofs.YtjnahfpnehmehaaGreatDoor Go.ChangeShapes Go.WideShapes Go.ChangeAt
set_option maxRecDepth 100000

theorem contentCounters_lifted {sum : FuncId → List AV → St → Option (AV × St)} (hsum : ∀ f args st v st', sum f args st = some (v, st') → SumOk Tryz.prog f args st v st')
    (h0 : ∀ (s : ByteArray) (x : Int), Answers sum 5 [.nils, .str s.data.toList, .int .i64 x])
    (h1 : ∀ (l : List Int) (cap : Nat) (s : ByteArray) (x : Int), l ≠ [] → AnswersA sum 5 [.slc 64 0 (l.map (AV.int .i64)).length (some cap), .str s.data.toList, .int .i64 x] (l.map (AV.int .i64)))
    (h2 : ∀ (cap : Nat) (s : ByteArray) (x : Int), AnswersE sum 5 [.slc 64 0 0 (some cap), .str s.data.toList, .int .i64 x])
    (os : Os) (started : os.Started) (H : Type) (enc : TypeId × Value → H) :
    ReturnsInHanded {} Tryz.checked os 5 .any (fun w args => (Rows.contentCountersSpec.pre enc Tryz.prog Tryz.f5 Rows.contentCountersRow.domain false w args ∧ laidMetH Tryz.prog Rows.contentCountersRow.laid w) ∧ sizedMet enc Tryz.prog Tryz.f5 (OpenSpec.ofChange Rows.contentCountersSpec) false w args)
      (Rows.contentCountersSpec.post enc Tryz.prog Tryz.f5 false true false false) := by
  refine returnsInHanded_of_change_and (C := Tryz.checked) (X := fun w _ => laidMetH Tryz.prog Rows.contentCountersRow.laid w) (fun _ _ _ hh h => h.of_heap hh) own started (by kernel_rfl) Tryz.func5
    (ChangeSpec.witness_shaped (enc := enc) (C := Tryz.checked) (os := os) (X := fun w _ => laidMetH Tryz.prog Rows.contentCountersRow.laid w) false (World.laidAll Tryz.prog os Rows.contentCountersRow.laid) #[.slice none 0 0, .string ⟨#[]⟩, .int .i64 0] 8 (World.laidAll_os _ _ _)
      (World.shaped_of_ZipB (by kernel_rfl) (by kernel_rfl)) (by kernel_rfl) (by kernel_rfl) (by kernel_rfl)
      (by rw [MakeChecks.laidMetH_plain _ _ _ (by kernel_rfl)]; exact laidMet_laidAll _ (by kernel_rfl) (by kernel_rfl))) ?_
  intro W base args ds gs before hval0 hW hc _ hL _
  have hval : ∀ (j : Nat) t v, Tryz.f5.params[j]? = some t → args[j]? = some v → Value.okWide Tryz.prog W .any base t v := hval0
  have hW' := hW
  obtain ⟨p, q, hA0, hV, rfl, _, _⟩ := hW
  have hAll : DataW.TrodAll enc Tryz.prog W 0 (fun _ => true) true Tryz.f5.params.toList args.toList ds p := hA0
  rw [Tryz.params5] at hAll hval
  obtain ⟨v0, v1, v2, d0, d1, d2, p0, p1, p2, rfl, rfl, rfl, k0, k1, k2⟩ := trodAll_three hAll
  obtain ⟨rfl, _⟩ := trodVars_none hV
  obtain ⟨s, rfl, _, _, _⟩ := Go.ChangeMaps.open_string Tryz.underlying9 (hval 1 9 v1 rfl rfl) k1
  obtain ⟨x, rfl, _, _, _⟩ := open_int Tryz.underlying3 (hval 2 3 v2 rfl rfl) k2
  obtain ⟨c, hb⟩ : ∃ c, Tryz.f5.body = some c := ⟨_, rfl⟩
  have hcalls : Calls Tryz.prog 5 #[v0, .string s, .int .i64 x] W fun r W' => r = .returned (.bool true) ∧ Below W.heap.size W W' := by
    rcases open_ints (hval 0 55 v0 rfl rfl) k0 with rfl | ⟨a, l, cap, rfl, hsp, _, hcell⟩
    · exact law_calls hsum Tryz.func5 hb (us := [.slice none 0 0, .string s, .int .i64 x]) (fun _ _ => RepL.cons (Rep.closed fun _ => rfl) (RepL.cons (Rep.closed fun _ => by simp [conc]) (RepL.cons (Rep.closed fun _ => rfl) RepL.nil))) (h0 s x) hL
    · by_cases hl : l = []
      · subst hl
        exact law_callsE (a := a) hsum Tryz.func5 hb (us := [.slice (some a) 0 cap, .string s, .int .i64 x]) (RepL.cons (rep_win hsp 0 cap) (RepL.cons (Rep.closed fun _ => by simp [conc]) (RepL.cons (Rep.closed fun _ => rfl) RepL.nil))) (h2 cap s x) hL
      · have hlm : (l.map (AV.int .i64)).length = l.length := List.length_map _
        have hr := rep_win hsp (l.map (AV.int .i64)).length cap
        have hlm' : Value.slice (some a) (l.map (AV.int .i64)).length cap = .slice (some a) l.length cap := by rw [hlm]
        rw [hlm'] at hr
        refine law_callsA hsum Tryz.func5 hb hsp (l := l.map (AV.int .i64)) (by simpa using hl) (us := [.slice (some a) l.length cap, .string s, .int .i64 x]) (RepL.cons hr (RepL.cons (Rep.closed fun _ => by simp [conc]) (RepL.cons (Rep.closed fun _ => rfl) RepL.nil))) (h1 l cap s x hl) hL (fun i v hv => ?_) fun z hz => ?_
        · rw [List.getElem?_map] at hv
          obtain ⟨n, hn, rfl⟩ := Option.map_eq_some_iff.1 hv
          exact ⟨_, hcell i n hn, fun _ => rfl⟩
        · cases l with
          | nil => exact hl rfl
          | cons n r =>
            rw [hcell 0 n rfl] at hz
            cases hz
  refine hcalls.mono fun r W' ⟨hr, hbe⟩ => ?_
  subst hr
  exact ⟨_, rfl, law_post rfl rfl (by kernel_rfl) (by kernel_rfl) hW' hbe⟩
theorem contentCounters_row {sum : FuncId → List AV → St → Option (AV × St)} (hsum : ∀ f args st v st', sum f args st = some (v, st') → SumOk Tryz.prog f args st v st')
    (h0 : ∀ (s : ByteArray) (x : Int), Answers sum 5 [.nils, .str s.data.toList, .int .i64 x])
    (h1 : ∀ (l : List Int) (cap : Nat) (s : ByteArray) (x : Int), l ≠ [] → AnswersA sum 5 [.slc 64 0 (l.map (AV.int .i64)).length (some cap), .str s.data.toList, .int .i64 x] (l.map (AV.int .i64)))
    (h2 : ∀ (cap : Nat) (s : ByteArray) (x : Int), AnswersE sum 5 [.slc 64 0 0 (some cap), .str s.data.toList, .int .i64 x]) : Rows.ContentCountersSaid :=
  OpenClaim.holds_of_wide 5 Tryz.f5 rfl rfl rfl rfl rfl rfl rfl ⟨rfl, rfl, rfl, rfl, rfl⟩ rfl rfl rfl rfl rfl (by kernel_rfl) Tryz.func5 (by kernel_rfl)
    (of_decide_eq_true (by kernel_rfl)) (by unfold Func.isWrapper; first | (rw [if_pos (by decide +kernel)]; kernel_rfl) | (rw [if_neg (by decide +kernel)]; exact ⟨rfl, rfl⟩))
    (fun os started H enc _ => contentCounters_lifted hsum h0 h1 h2 os started H enc)
theorem contentCounters_card {sum : FuncId → List AV → St → Option (AV × St)} (hsum : ∀ f args st v st', sum f args st = some (v, st') → SumOk Tryz.prog f args st v st')
    (h0 : ∀ (s : ByteArray) (x : Int), Answers sum 5 [.nils, .str s.data.toList, .int .i64 x])
    (h1 : ∀ (l : List Int) (cap : Nat) (s : ByteArray) (x : Int), l ≠ [] → AnswersA sum 5 [.slc 64 0 (l.map (AV.int .i64)).length (some cap), .str s.data.toList, .int .i64 x] (l.map (AV.int .i64)))
    (h2 : ∀ (cap : Nat) (s : ByteArray) (x : Int), AnswersE sum 5 [.slc 64 0 0 (some cap), .str s.data.toList, .int .i64 x]) : Rows.ContentCountersCardSaid :=
  Claim7.holds_tied_plain_at .later [] [.data, .listed, .data, .pinned, .pinned] true (true, "42d9bcd8abba7e7dc589b9990cabdf14f96a5428a39f3d8e27f121bf63d63c59") false (contentCounters_row hsum h0 h1 h2) (fun _ h => by cases h) (by kernel_rfl) (fun _ h => by cases h) contentCounters_row_tie rfl ⟨rfl, rfl⟩ (by kernel_rfl) rfl
    (fun f fn hf hfn => by
      obtain rfl : f = 5 := Option.some.inj ((show Tryz.prog.funcNamed "fleuron/fleuronlaw18.ContentCounters" = some 5 by kernel_rfl).symm.trans hf) |>.symm
      obtain rfl : fn = Tryz.f5 := (Option.some.inj (Tryz.func5.symm.trans hfn)).symm
      exact ⟨by kernel_rfl, fun j t ht => by
        rw [Tryz.params5] at ht
        have hm : t ∈ [55, 9, 3] := by simpa using Array.mem_of_getElem? ht
        have hall : ([55, 9, 3].all fun u => !Tryz.prog.wantsStandIn u) = true := by kernel_rfl
        exact (show Tryz.prog.wantsStandIn t = false by simpa using List.all_eq_true.1 hall t hm)⟩)
    (by kernel_rfl)
end Go.Proofs.Tz
