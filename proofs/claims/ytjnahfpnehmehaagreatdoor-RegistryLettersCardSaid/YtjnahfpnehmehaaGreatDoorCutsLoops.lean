/- ContentCuts: the law's walk. -/
import Derived.Test.YtjnahfpnehmehaaGreatDoorCutsPlain
import Derived.Test.YtjnahfpnehmehaaGreatDoorRead
import Derived.Test.YtjnahfpnehmehaaGreatDoorAeG
import Derived.Test.YtjnahfpnehmehaaGreatDoorCutsCard
import Derived.Test.YtjnahfpnehmehaaGreatDoorAeF
namespace Go.Proofs.Tz
open Go Go.AE Go.RowKit Go.Proofs
set_option maxRecDepth 100000

/-- fleuron/fleuronlaw18.ContentCuts -/
def c3 : SC := (.seq (.region [⟨.assign (.const (.bool false)), some 6, none⟩])
  (.seq (.seq (.region [⟨.move (.tmp 0), some 13, none⟩, ⟨.binOp .lss 3 (.tmp 13) (.const (.int .i64 0)) 3, some 14, none⟩, ⟨.move (.tmp 14), some 15, none⟩, ⟨.move (.tmp 0), some 16, some (15, false)⟩, ⟨.binOp .gtr 3 (.tmp 16) (.const (.int .i64 3000)) 3, some 17, some (15, false)⟩, ⟨.pick (.tmp 15) (.const (.bool true)) (.tmp 17), some 18, none⟩, ⟨.move (.tmp 18), some 19, none⟩, ⟨.move (.tmp 1), some 20, some (19, false)⟩, ⟨.call ⟨.builtin .len, #[(.tmp 20)], #[9]⟩, some 21, some (19, false)⟩, ⟨.binOp .lss 3 (.tmp 21) (.const (.int .i64 1)) 3, some 22, some (19, false)⟩, ⟨.pick (.tmp 19) (.const (.bool true)) (.tmp 22), some 23, none⟩, ⟨.move (.tmp 23), some 24, none⟩, ⟨.move (.tmp 1), some 25, some (24, false)⟩, ⟨.call ⟨.builtin .len, #[(.tmp 25)], #[9]⟩, some 26, some (24, false)⟩, ⟨.binOp .gtr 3 (.tmp 26) (.const (.int .i64 4)) 3, some 27, some (24, false)⟩, ⟨.pick (.tmp 24) (.const (.bool true)) (.tmp 27), some 28, none⟩, ⟨.move (.tmp 28), some 29, none⟩, ⟨.move (.tmp 2), some 30, some (29, false)⟩, ⟨.binOp .lss 3 (.tmp 30) (.const (.int .i64 0)) 3, some 31, some (29, false)⟩, ⟨.pick (.tmp 29) (.const (.bool true)) (.tmp 31), some 32, none⟩, ⟨.move (.tmp 32), some 33, none⟩, ⟨.move (.tmp 2), some 34, some (33, false)⟩, ⟨.binOp .gtr 3 (.tmp 34) (.const (.int .i64 5)) 3, some 35, some (33, false)⟩, ⟨.pick (.tmp 33) (.const (.bool true)) (.tmp 35), some 36, none⟩])
  (.cond (.tmp 36) (.seq (.region [⟨.call ⟨.value (.func 14), #[], #[]⟩, some 37, none⟩, ⟨.assign (.tmp 37), some 6, none⟩])
  .ret) .skip))
  (.seq (.region [⟨.assign (.const (.int .i64 0)), some 7, none⟩])
  (.seq (.seq (.region [⟨.move (.tmp 1), some 38, none⟩, ⟨.range 9 (.tmp 38), some 39, none⟩])
  (.block 0 (.loop (.seq (.region [⟨.next (.tmp 39) true, some 40, none⟩, ⟨.extract (.tmp 40) 0, some 41, none⟩])
  (.seq (.cond (.tmp 41) .skip (.exit 0))
  (.block 1 (.region [⟨.move (.tmp 7), some 42, none⟩, ⟨.binOp .add 3 (.tmp 42) (.const (.int .i64 1)) 3, some 43, none⟩, ⟨.assign (.tmp 43), some 7, none⟩])))))))
  (.seq (.seq (.region [⟨.move (.tmp 7), some 44, none⟩, ⟨.binOp .neq 3 (.tmp 44) (.const (.int .i64 1)) 3, some 45, none⟩, ⟨.move (.tmp 45), some 46, none⟩, ⟨.move (.tmp 1), some 47, some (46, false)⟩, ⟨.binOp .eql 9 (.tmp 47) (.const (.string ⟨#[239, 191, 189]⟩)) 9, some 48, some (46, false)⟩, ⟨.pick (.tmp 46) (.const (.bool true)) (.tmp 48), some 49, none⟩, ⟨.move (.tmp 49), some 50, none⟩, ⟨.move (.tmp 1), some 51, some (50, false)⟩, ⟨.call ⟨.builtin .len, #[(.tmp 51)], #[9]⟩, some 52, some (50, false)⟩, ⟨.binOp .gtr 3 (.tmp 52) (.const (.int .i64 1)) 3, some 53, some (50, false)⟩, ⟨.move (.tmp 53), some 54, some (50, false)⟩, ⟨.move (.tmp 1), some 55, some (54, true)⟩, ⟨.binOp .add 9 (.const (.string ⟨#[97]⟩)) (.tmp 55) 9, some 56, some (54, true)⟩, ⟨.convert 9 26 (.tmp 56), some 57, some (54, true)⟩, ⟨.call ⟨.value (.func 16), #[(.tmp 57)], #[26]⟩, some 58, some (54, true)⟩, ⟨.indexAddr 24 (.tmp 58) (.const (.int .i64 1)), some 59, some (54, true)⟩, ⟨.load 21 (.tmp 59), some 60, some (54, true)⟩, ⟨.call ⟨.value (.func 15), #[(.tmp 60)], #[21]⟩, some 61, some (54, true)⟩, ⟨.move (.tmp 1), some 62, some (54, true)⟩, ⟨.binOp .neq 9 (.tmp 61) (.tmp 62) 9, some 63, some (54, true)⟩, ⟨.pick (.tmp 54) (.tmp 63) (.const (.bool false)), some 64, some (50, false)⟩, ⟨.pick (.tmp 50) (.const (.bool true)) (.tmp 64), some 65, none⟩])
  (.cond (.tmp 65) (.seq (.region [⟨.call ⟨.value (.func 14), #[], #[]⟩, some 66, none⟩, ⟨.assign (.tmp 66), some 6, none⟩])
  .ret) .skip))
  (.seq (.region [⟨.move (.tmp 2), some 67, none⟩, ⟨.slice 9 (.const (.string ⟨#[120, 120, 120, 120, 120]⟩)) none (some (.tmp 67)) none, some 68, none⟩, ⟨.assign (.tmp 68), some 8, none⟩])
  (.seq (.seq (.region [⟨.assign (.const (.int .i64 0)), some 9, none⟩])
  (.block 2 (.loop (.seq (.seq (.region [⟨.move (.tmp 9), some 69, none⟩, ⟨.move (.tmp 0), some 70, none⟩, ⟨.binOp .lss 3 (.tmp 69) (.tmp 70) 3, some 71, none⟩])
  (.cond (.tmp 71) .skip (.exit 2)))
  (.seq (.block 3 (.region [⟨.move (.tmp 8), some 74, none⟩, ⟨.move (.tmp 1), some 75, none⟩, ⟨.binOp .add 9 (.tmp 74) (.tmp 75) 9, some 76, none⟩, ⟨.assign (.tmp 76), some 8, none⟩]))
  (.region [⟨.move (.tmp 9), some 72, none⟩, ⟨.binOp .add 3 (.tmp 72) (.const (.int .i64 1)) 3, some 73, none⟩, ⟨.assign (.tmp 73), some 9, none⟩]))))))
  (.seq (.region [⟨.move (.tmp 8), some 78, none⟩, ⟨.call ⟨.value (.func 17), #[(.tmp 78)], #[9]⟩, some 79, none⟩, ⟨.move (.tmp 79), some 77, none⟩, ⟨.extract (.tmp 77) 0, some 80, none⟩, ⟨.extract (.tmp 77) 1, some 81, none⟩, ⟨.assign (.tmp 80), some 10, none⟩, ⟨.assign (.tmp 81), some 11, none⟩])
  (.seq (.seq (.region [⟨.move (.tmp 8), some 82, none⟩, ⟨.call ⟨.builtin .len, #[(.tmp 82)], #[9]⟩, some 83, none⟩, ⟨.binOp .leq 3 (.tmp 83) (.const (.int .i64 2000)) 3, some 84, none⟩])
  (.cond (.tmp 84) (.seq (.region [⟨.move (.tmp 10), some 85, none⟩, ⟨.move (.tmp 8), some 86, none⟩, ⟨.binOp .eql 9 (.tmp 85) (.tmp 86) 9, some 87, none⟩, ⟨.move (.tmp 87), some 88, none⟩, ⟨.move (.tmp 11), some 89, some (88, true)⟩, ⟨.unOp .not 4 (.tmp 89), some 90, some (88, true)⟩, ⟨.pick (.tmp 88) (.tmp 90) (.const (.bool false)), some 91, none⟩, ⟨.move (.tmp 91), some 92, none⟩, ⟨.call ⟨.value (.func 14), #[], #[]⟩, some 93, some (92, true)⟩, ⟨.pick (.tmp 92) (.tmp 93) (.const (.bool false)), some 94, none⟩, ⟨.assign (.tmp 94), some 6, none⟩])
  .ret) .skip))
  (.seq (.region [⟨.move (.tmp 2), some 95, none⟩, ⟨.move (.tmp 2), some 96, none⟩, ⟨.binOp .sub 3 (.const (.int .i64 2000)) (.tmp 96) 3, some 97, none⟩, ⟨.move (.tmp 1), some 98, none⟩, ⟨.call ⟨.builtin .len, #[(.tmp 98)], #[9]⟩, some 99, none⟩, ⟨.binOp .quo 3 (.tmp 97) (.tmp 99) 3, some 100, none⟩, ⟨.move (.tmp 1), some 101, none⟩, ⟨.call ⟨.builtin .len, #[(.tmp 101)], #[9]⟩, some 102, none⟩, ⟨.binOp .mul 3 (.tmp 100) (.tmp 102) 3, some 103, none⟩, ⟨.binOp .add 3 (.tmp 95) (.tmp 103) 3, some 104, none⟩, ⟨.assign (.tmp 104), some 12, none⟩])
  (.seq (.region [⟨.move (.tmp 11), some 105, none⟩, ⟨.move (.tmp 105), some 106, none⟩, ⟨.move (.tmp 10), some 107, some (106, true)⟩, ⟨.call ⟨.builtin .len, #[(.tmp 107)], #[9]⟩, some 108, some (106, true)⟩, ⟨.move (.tmp 12), some 109, some (106, true)⟩, ⟨.binOp .eql 3 (.tmp 108) (.tmp 109) 3, some 110, some (106, true)⟩, ⟨.pick (.tmp 106) (.tmp 110) (.const (.bool false)), some 111, none⟩, ⟨.move (.tmp 111), some 112, none⟩, ⟨.move (.tmp 10), some 113, some (112, true)⟩, ⟨.move (.tmp 8), some 114, some (112, true)⟩, ⟨.move (.tmp 12), some 115, some (112, true)⟩, ⟨.slice 9 (.tmp 114) none (some (.tmp 115)) none, some 116, some (112, true)⟩, ⟨.binOp .eql 9 (.tmp 113) (.tmp 116) 9, some 117, some (112, true)⟩, ⟨.pick (.tmp 112) (.tmp 117) (.const (.bool false)), some 118, none⟩, ⟨.move (.tmp 118), some 119, none⟩, ⟨.call ⟨.value (.func 14), #[], #[]⟩, some 120, some (119, true)⟩, ⟨.pick (.tmp 119) (.tmp 120) (.const (.bool false)), some 121, none⟩, ⟨.assign (.tmp 121), some 6, none⟩])
  .ret)))))))))))
theorem c3_of : SC.of Tryz.f3.body.get! = c3 := by kernel_rfl

theorem body3 : Tryz.f3.body = some (Tryz.f3.body.get!) := by kernel_rfl
theorem nt3 : Tryz.f3.ntmps = 122 := by kernel_rfl
theorem res3 : Tryz.f3.results.toList = [.tmp 6] := by kernel_rfl
theorem agg21 : isAggT Tryz.prog 21 = some false := by kernel_rfl
/-- The state knows the program's variables. -/
def KnowsG (st : St) : Prop := ∃ e, Knows (stG e) st
open Classical in
/-- What is known beforehand: that the package is awake. -/
noncomputable def sumL (aw : FuncId) (f : FuncId) (xs : List AV) (st : St) : Option (AV × St) := if f = aw ∧ xs = [] ∧ KnowsG st then some (.bool true, st) else none
theorem sumL_aw {aw : FuncId} {st : St} (h : KnowsG st) : sumL aw aw [] st = some (.bool true, st) := if_pos ⟨rfl, rfl, h⟩
theorem sumL_no {aw f : FuncId} (h : f ≠ aw) (xs : List AV) (st : St) : sumL aw f xs st = none := if_neg fun k => h k.1
theorem KnowsG.ext {st st' : St} (h : KnowsG st) (k : Ext st st') (h64 : 64 ≤ st.next) : KnowsG st' := by
  obtain ⟨e, h⟩ := h
  refine ⟨e, fun b o hb => ?_⟩
  have := hb
  rw [stG_get] at this
  by_cases e0 : b = 0
  · rw [k.heap b (by omega)]; exact h b o hb
  · rw [if_neg e0] at this; cases this
/-- How many signs there are. -/
noncomputable def cnt : Nat → List UInt8 → Nat
  | 0, _ => 0
  | _ + 1, [] => 0
  | m + 1, c :: r => cnt m ((c :: r).drop (dec8 (c :: r)).2) + 1
theorem cnt_le : ∀ (m : Nat) (l : List UInt8), cnt m l ≤ l.length
  | 0, _ => Nat.zero_le _
  | _ + 1, [] => Nat.zero_le _
  | m + 1, c :: r => by
    obtain ⟨h1, h2⟩ := dec8_wd c r
    have := cnt_le m ((c :: r).drop (dec8 (c :: r)).2)
    simp only [List.length_drop, List.length_cons] at *
    rw [cnt]; omega
theorem cnt_zero {m : Nat} {l : List UInt8} (h : l.length < m) (h0 : cnt m l = 0) : l = [] := by
  cases m with
  | zero => omega
  | succ m =>
    cases l with
    | nil => rfl
    | cons c r => simp [cnt] at h0
theorem cnt_one {m : Nat} {c : UInt8} {r : List UInt8} (h : (c :: r).length < m) (h1 : cnt m (c :: r) = 1) : (dec8 (c :: r)).2 = (c :: r).length := by
  obtain ⟨w1, w2⟩ := dec8_wd c r
  cases m with
  | zero => omega
  | succ m =>
    rw [cnt] at h1
    have := cnt_zero (m := m) (l := (c :: r).drop (dec8 (c :: r)).2) (by simp only [List.length_drop, List.length_cons] at *; omega) (by omega)
    have := congrArg List.length this
    simp only [List.length_drop, List.length_nil] at this
    omega

/-- The loop that counts signs. -/
def c3count : SC := (.loop (.seq (.region [⟨.next (.tmp 39) true, some 40, none⟩, ⟨.extract (.tmp 40) 0, some 41, none⟩])
  (.seq (.cond (.tmp 41) .skip (.exit 0))
  (.block 1 (.region [⟨.move (.tmp 7), some 42, none⟩, ⟨.binOp .add 3 (.tmp 42) (.const (.int .i64 1)) 3, some 43, none⟩, ⟨.assign (.tmp 43), some 7, none⟩])))))
/-- The loop that puts the text together. -/
def c3grow : SC := (.loop (.seq (.seq (.region [⟨.move (.tmp 9), some 69, none⟩, ⟨.move (.tmp 0), some 70, none⟩, ⟨.binOp .lss 3 (.tmp 69) (.tmp 70) 3, some 71, none⟩])
  (.cond (.tmp 71) .skip (.exit 2)))
  (.seq (.block 3 (.region [⟨.move (.tmp 8), some 74, none⟩, ⟨.move (.tmp 1), some 75, none⟩, ⟨.binOp .add 9 (.tmp 74) (.tmp 75) 9, some 76, none⟩, ⟨.assign (.tmp 76), some 8, none⟩]))
  (.region [⟨.move (.tmp 9), some 72, none⟩, ⟨.binOp .add 3 (.tmp 72) (.const (.int .i64 1)) 3, some 73, none⟩, ⟨.assign (.tmp 73), some 9, none⟩]))))

theorem count_loop {aw : FuncId} {n t : Int} {g : List UInt8} {b : Nat} {st : St} (hb : st.next ≤ b) {ks : List Kont} {Q : Post3} : ∀ (m : Nat) (rest : List UInt8) (pos k : Nat) (st1 : St), rest.length < m → k + rest.length < 1000000 → st1.heap.get b = some (.siter rest pos) → Ext st st1 →
    ∀ env, lookE 0 env = some (.int .i64 n) → lookE 1 env = some (.str g) → lookE 2 env = some (.int .i64 t) → lookE 39 env = some (.ptr b 0) → lookE 7 env = some (.int .i64 (k : Int)) →
    (∀ env' st2, Ext st st2 → lookE 0 env' = some (.int .i64 n) → lookE 1 env' = some (.str g) → lookE 2 env' = some (.int .i64 t) → lookE 7 env' = some (.int .i64 ((k + cnt m rest : Nat) : Int)) → after (CS (sumL aw)) 122 none ks Q .normal env' st2) →
    WK (CS (sumL aw)) 122 none c3count (.block 0 :: ks) env st1 Q := by
  intro m
  induction m with
  | zero => intro rest pos k st1 h; omega
  | succ m ih =>
    intro rest pos k st1 hm hk hget hext env h0 h1 h2 h39 h7 hfin
    refine WK.sub [(0, .int .i64 n), (1, .str g), (2, .int .i64 t), (39, .ptr b 0), (7, .int .i64 (k : Int))] ?_ ?_
    · intro t v ht
      simp only [lookE_cons] at ht
      by_cases e0 : t = 0
      · rw [if_pos e0] at ht; subst e0; rw [h0]; exact ht
      rw [if_neg e0] at ht
      by_cases e1 : t = 1
      · rw [if_pos e1] at ht; subst e1; rw [h1]; exact ht
      rw [if_neg e1] at ht
      by_cases e2 : t = 2
      · rw [if_pos e2] at ht; subst e2; rw [h2]; exact ht
      rw [if_neg e2] at ht
      by_cases e39 : t = 39
      · rw [if_pos e39] at ht; subst e39; rw [h39]; exact ht
      rw [if_neg e39] at ht
      by_cases e7 : t = 7
      · rw [if_pos e7] at ht; subst e7; rw [h7]; exact ht
      rw [if_neg e7] at ht
      cases ht
    unfold c3count
    refine WK.loop (WK.seq (WK.region ?_))
    cases rest with
    | nil =>
      refine WR.op rfl rfl (r_next_end rfl hget) rfl ?_
      refine WR.op rfl rfl rfl rfl ?_
      refine WR.nil ?_
      refine WK.seq (WK.cond rfl (fun h => (by cases h)) (fun _ => WK.exit ?_))
      exact after.seq_exit (after.seq_exit (after.exit (hfin _ st1 hext rfl rfl rfl rfl)))
    | cons c r =>
      obtain ⟨w1, w2⟩ := dec8_wd c r
      refine WR.op rfl rfl (r_nextD (s := c :: r) (rest := (c :: r).drop (dec8 (c :: r)).2) (k := (dec8 (c :: r)).1) (w := (dec8 (c :: r)).2) (by simp) rfl hget rfl rfl) rfl ?_
      refine WR.op rfl rfl rfl rfl ?_
      refine WR.nil ?_
      refine WK.seq (WK.cond rfl (fun _ => WK.skip ?_) (fun h => (by cases h)))
      refine WK.block (WK.region ?_)
      refine WR.op rfl rfl rfl rfl ?_
      refine WR.op rfl rfl (r_arith ⟨by decide, by decide⟩ rfl rfl (add_nat (b := 1) (by simp only [List.length_cons] at hk; omega))) rfl ?_
      refine WR.op rfl rfl rfl rfl ?_
      refine WR.nil ?_
      refine ih ((c :: r).drop (dec8 (c :: r)).2) (pos + (dec8 (c :: r)).2) (k + 1) _ (by simp only [List.length_drop, List.length_cons] at *; omega) (by simp only [List.length_drop, List.length_cons] at *; omega) (by rw [set_get, if_pos rfl]) (hext.set hb _) _ rfl rfl rfl rfl rfl fun env' st2 e1 e2 e3 e4 e5 => hfin env' st2 e1 e2 e3 e4 ?_
      rw [e5, cnt]
      congr 3
      omega

theorem grow_loop {aw : FuncId} {n : Nat} {t : Int} {g tl : List UInt8} {st : St} (hn : n ≤ 3000) (hg : g.length ≤ 4) (htl : tl.length ≤ 5) {ks : List Kont} {Q : Post3} : ∀ (m i : Nat), i + m = n →
    ∀ env, lookE 0 env = some (.int .i64 (n : Int)) → lookE 1 env = some (.str g) → lookE 2 env = some (.int .i64 t) → lookE 8 env = some (.str (tl ++ gs i g)) → lookE 9 env = some (.int .i64 (i : Int)) →
    (∀ env', lookE 0 env' = some (.int .i64 (n : Int)) → lookE 1 env' = some (.str g) → lookE 2 env' = some (.int .i64 t) → lookE 8 env' = some (.str (tl ++ gs n g)) → after (CS (sumL aw)) 122 none ks Q .normal env' st) →
    WK (CS (sumL aw)) 122 none c3grow (.block 2 :: ks) env st Q := by
  intro m
  induction m with
  | zero =>
    intro i hi env h0 h1 h2 h8 h9 hfin
    obtain rfl : i = n := by omega
    refine WK.sub [(0, .int .i64 (i : Int)), (1, .str g), (2, .int .i64 t), (8, .str (tl ++ gs i g)), (9, .int .i64 (i : Int))] ?_ ?_
    · intro t v ht
      simp only [lookE_cons] at ht
      by_cases e0 : t = 0
      · rw [if_pos e0] at ht; subst e0; rw [h0]; exact ht
      rw [if_neg e0] at ht
      by_cases e1 : t = 1
      · rw [if_pos e1] at ht; subst e1; rw [h1]; exact ht
      rw [if_neg e1] at ht
      by_cases e2 : t = 2
      · rw [if_pos e2] at ht; subst e2; rw [h2]; exact ht
      rw [if_neg e2] at ht
      by_cases e8 : t = 8
      · rw [if_pos e8] at ht; subst e8; rw [h8]; exact ht
      rw [if_neg e8] at ht
      by_cases e9 : t = 9
      · rw [if_pos e9] at ht; subst e9; rw [h9]; exact ht
      rw [if_neg e9] at ht
      cases ht
    unfold c3grow
    refine WK.loop (WK.seq (WK.seq (WK.region ?_)))
    refine WR.op rfl rfl rfl rfl ?_
    refine WR.op rfl rfl rfl rfl ?_
    refine WR.op rfl rfl (r_lss (q := false) rfl rfl (by rw [iltb_eq]; simp)) rfl ?_
    refine WR.nil ?_
    refine WK.cond rfl (fun h => (by cases h)) (fun _ => WK.exit ?_)
    exact after.seq_exit (after.seq_exit (after.exit (hfin _ rfl rfl rfl rfl)))
  | succ m ih =>
    intro i hi env h0 h1 h2 h8 h9 hfin
    refine WK.sub [(0, .int .i64 (n : Int)), (1, .str g), (2, .int .i64 t), (8, .str (tl ++ gs i g)), (9, .int .i64 (i : Int))] ?_ ?_
    · intro t v ht
      simp only [lookE_cons] at ht
      by_cases e0 : t = 0
      · rw [if_pos e0] at ht; subst e0; rw [h0]; exact ht
      rw [if_neg e0] at ht
      by_cases e1 : t = 1
      · rw [if_pos e1] at ht; subst e1; rw [h1]; exact ht
      rw [if_neg e1] at ht
      by_cases e2 : t = 2
      · rw [if_pos e2] at ht; subst e2; rw [h2]; exact ht
      rw [if_neg e2] at ht
      by_cases e8 : t = 8
      · rw [if_pos e8] at ht; subst e8; rw [h8]; exact ht
      rw [if_neg e8] at ht
      by_cases e9 : t = 9
      · rw [if_pos e9] at ht; subst e9; rw [h9]; exact ht
      rw [if_neg e9] at ht
      cases ht
    have hgl : (gs i g).length ≤ 12000 := by
      rw [gs_len]
      calc i * g.length ≤ 3000 * 4 := Nat.mul_le_mul (by omega) hg
        _ = 12000 := by decide
    unfold c3grow
    refine WK.loop (WK.seq (WK.seq (WK.region ?_)))
    refine WR.op rfl rfl rfl rfl ?_
    refine WR.op rfl rfl rfl rfl ?_
    refine WR.op rfl rfl (r_lss (q := true) rfl rfl (by rw [iltb_eq]; simp; omega)) rfl ?_
    refine WR.nil ?_
    refine WK.cond rfl (fun _ => WK.skip ?_) (fun h => (by cases h))
    refine WK.seq (WK.block (WK.region ?_))
    refine WR.op rfl rfl rfl rfl ?_
    refine WR.op rfl rfl rfl rfl ?_
    refine WR.op rfl rfl (r_cat rfl rfl (by rw [List.length_append]; omega)) rfl ?_
    refine WR.op rfl rfl rfl rfl ?_
    refine WR.nil ?_
    refine WK.region ?_
    refine WR.op rfl rfl rfl rfl ?_
    refine WR.op rfl rfl (r_arith ⟨by decide, by decide⟩ rfl rfl (add_nat (b := 1) (by omega))) rfl ?_
    refine WR.op rfl rfl rfl rfl ?_
    refine WR.nil ?_
    refine ih (i + 1) (by omega) _ rfl rfl rfl ?_ rfl hfin
    show some (AV.str ((tl ++ gs i g) ++ g)) = _
    rw [List.append_assoc, gs_end]

end Go.Proofs.Tz
