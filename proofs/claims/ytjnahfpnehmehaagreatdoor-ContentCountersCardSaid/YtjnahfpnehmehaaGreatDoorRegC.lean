/- The registry of styles: chain and Text. -/
import Derived.Test.YtjnahfpnehmehaaGreatDoorRegB
import Derived.Test.YtjnahfpnehmehaaGreatDoorAeH
namespace Go.Proofs.Tz
open Go Go.AE Go.RowKit Go.Proofs
set_option maxRecDepth 100000
variable {sum : FuncId → List AV → St → Option (AV × St)}
/-- How many signs there are. -/
noncomputable def runes : Nat → List UInt8 → Nat
  | 0, _ => 0
  | _ + 1, [] => 0
  | m + 1, c :: r => runes m ((c :: r).drop (dec8 (c :: r)).2) + 1
theorem runes_le : ∀ (m : Nat) (l : List UInt8), runes m l ≤ l.length
  | 0, _ => Nat.zero_le _
  | _ + 1, [] => Nat.zero_le _
  | m + 1, c :: r => by
    obtain ⟨h1, h2⟩ := dec8_wd c r
    have := runes_le m ((c :: r).drop (dec8 (c :: r)).2)
    simp only [List.length_drop, List.length_cons] at *
    rw [runes]; omega
/-- unicode/utf8.RuneCountInString -/
def c49 : SC := (.seq (.region [⟨.assign (.const (.int .i64 0)), some 2, none⟩])
  (.seq (.seq (.region [⟨.move (.tmp 0), some 3, none⟩, ⟨.range 9 (.tmp 3), some 4, none⟩])
  (.block 0 (.loop (.seq (.region [⟨.next (.tmp 4) true, some 5, none⟩, ⟨.extract (.tmp 5) 0, some 6, none⟩])
  (.seq (.cond (.tmp 6) .skip (.exit 0))
  (.block 1 (.region [⟨.move (.tmp 2), some 7, none⟩, ⟨.binOp .add 3 (.tmp 7) (.const (.int .i64 1)) 3, some 8, none⟩, ⟨.assign (.tmp 8), some 2, none⟩])))))))
  (.seq (.region [⟨.move (.tmp 2), some 9, none⟩, ⟨.assign (.tmp 9), some 2, none⟩])
  .ret)))
theorem c49_of : SC.of Tryz.f49.body.get! = c49 := by kernel_rfl
theorem body49 : Tryz.f49.body = some (Tryz.f49.body.get!) := by kernel_rfl
theorem nt49 : Tryz.f49.ntmps = 10 := by kernel_rfl
theorem res49 : Tryz.f49.results.toList = [.tmp 2] := by kernel_rfl
def c49loop : SC := (.loop (.seq (.region [⟨.next (.tmp 4) true, some 5, none⟩, ⟨.extract (.tmp 5) 0, some 6, none⟩])
  (.seq (.cond (.tmp 6) .skip (.exit 0))
  (.block 1 (.region [⟨.move (.tmp 2), some 7, none⟩, ⟨.binOp .add 3 (.tmp 7) (.const (.int .i64 1)) 3, some 8, none⟩, ⟨.assign (.tmp 8), some 2, none⟩])))))
theorem runes_loop {b : Nat} {st : St} (hb : st.next ≤ b) {ks : List Kont} {Q : Post3} : ∀ (m : Nat) (rest : List UInt8) (pos k : Nat) (st1 : St), rest.length < m → k + rest.length < 100000000 → st1.heap.get b = some (.siter rest pos) → Ext st st1 →
    ∀ env, lookE 4 env = some (.ptr b 0) → lookE 2 env = some (.int .i64 (k : Int)) →
    (∀ env' st2, Ext st st2 → lookE 2 env' = some (.int .i64 ((k + runes m rest : Nat) : Int)) → after (CS sum) 10 none ks Q .normal env' st2) →
    WK (CS sum) 10 none c49loop (.block 0 :: ks) env st1 Q := by
  intro m
  induction m with
  | zero => intro rest pos k st1 h; omega
  | succ m ih =>
    intro rest pos k st1 hm hk hget hext env h4 h2 hfin
    refine WK.sub [(4, .ptr b 0), (2, .int .i64 (k : Int))] ?_ ?_
    · intro t v ht
      simp only [lookE_cons] at ht
      by_cases e4 : t = 4
      · rw [if_pos e4] at ht; subst e4; rw [h4]; exact ht
      rw [if_neg e4] at ht
      by_cases e2 : t = 2
      · rw [if_pos e2] at ht; subst e2; rw [h2]; exact ht
      rw [if_neg e2] at ht
      cases ht
    unfold c49loop
    refine WK.loop ?_
    cases rest with
    | nil =>
      refine WK.seq ?_
      refine WK.region ?_
      refine WR.op rfl rfl (r_next_end rfl hget) rfl ?_
      refine WR.op rfl rfl rfl rfl ?_
      refine WR.nil ?_
      refine after.seq ?_
      refine WK.seq ?_
      refine WK.cond rfl (fun h => (by cases h)) (fun _ => ?_)
      refine WK.exit ?_
      refine after.seq_exit ?_
      refine after.seq_exit ?_
      refine after.exit ?_
      exact hfin _ st1 hext rfl
    | cons c r =>
      obtain ⟨w1, w2⟩ := dec8_wd c r
      refine WK.seq ?_
      refine WK.region ?_
      refine WR.op rfl rfl (r_nextD (s := c :: r) (rest := (c :: r).drop (dec8 (c :: r)).2) (k := (dec8 (c :: r)).1) (w := (dec8 (c :: r)).2) (by simp) rfl hget rfl rfl) rfl ?_
      refine WR.op rfl rfl rfl rfl ?_
      refine WR.nil ?_
      refine after.seq ?_
      refine WK.seq ?_
      refine WK.cond rfl (fun _ => ?_) (fun h => (by cases h))
      refine WK.skip ?_
      refine after.seq ?_
      refine WK.block ?_
      refine WK.region ?_
      refine WR.op rfl rfl rfl rfl ?_
      refine WR.op rfl rfl (r_arith ⟨by decide, by decide⟩ rfl rfl (add_nat (b := 1) (by simp only [List.length_cons] at hk; omega))) rfl ?_
      refine WR.op rfl rfl rfl rfl ?_
      refine WR.nil ?_
      refine after.block ?_
      refine after.seq ?_
      refine ih ((c :: r).drop (dec8 (c :: r)).2) (pos + (dec8 (c :: r)).2) (k + 1) _ (by simp only [List.length_drop, List.length_cons] at *; omega) (by simp only [List.length_drop, List.length_cons] at *; omega) (by rw [set_get, if_pos rfl]) (hext.set hb _) _ rfl rfl fun env' st2 e1 e2 => hfin env' st2 e1 ?_
      rw [e2, runes]
      congr 3
      omega
theorem runeCount_ok (hs : ∀ xs st, sum 49 xs st = none) (s : List UInt8) (hl : s.length < 10000000) (st : St) : CallW (CS sum) 49 [.str s] st fun v st' => v = .int .i64 (runes (s.length + 1) s : Int) ∧ Ext st st' := by
  refine CallW.enter (hs _ _) Tryz.func49 body49 c49_of rfl ?_
  rw [nt49]
  unfold c49
  refine WK.seq ?_
  refine WK.region ?_
  refine WR.op rfl rfl rfl rfl ?_
  refine WR.nil ?_
  refine after.seq ?_
  refine WK.seq ?_
  refine WK.seq ?_
  refine WK.region ?_
  refine WR.op rfl rfl rfl rfl ?_
  refine WR.op rfl rfl (r_range un9 rfl) rfl ?_
  refine WR.nil ?_
  refine after.seq ?_
  refine WK.block ?_
  refine runes_loop (st := st) (Nat.le_refl _) (s.length + 1) s 0 0 _ (by omega) (by omega) (push_self _ _) ((Ext.refl st).push _) _ rfl rfl fun env2 st2 e1 e2 => ?_
  refine after.seq ?_
  refine WK.seq ?_
  refine WK.region ?_
  refine WR.op rfl rfl (v := .int .i64 ((0 + runes (s.length + 1) s : Nat) : Int)) (st' := st2) ?_ rfl ?_
  · simp only [aopR, evE, e2, bnd_some]
  refine WR.op rfl rfl rfl rfl ?_
  refine WR.nil ?_
  refine after.seq ?_
  refine WK.ret ?_
  refine ⟨ret_ne 0, ret_ne, [.int .i64 ((0 + runes (s.length + 1) s : Nat) : Int)], (by rw [res49]; rfl), ?_, e1⟩
  rw [Nat.zero_add]
  rfl
/-- strings.Repeat -/
def c50 : SC := (.seq (.region [⟨.assign (.const (.string ⟨#[]⟩)), some 4, none⟩])
  (.seq (.seq (.region [⟨.move (.tmp 1), some 11, none⟩])
  (.block 0 (.seq (.region [⟨.binOp .eql 3 (.tmp 11) (.const (.int .i64 0)) 3, some 13, none⟩, ⟨.assign (.tmp 13), some 12, none⟩])
  (.cond (.tmp 12) (.seq (.region [⟨.assign (.const (.string ⟨#[]⟩)), some 4, none⟩])
  .ret) (.seq (.region [⟨.binOp .eql 3 (.tmp 11) (.const (.int .i64 1)) 3, some 15, none⟩, ⟨.assign (.tmp 15), some 14, none⟩])
  (.cond (.tmp 14) (.seq (.region [⟨.move (.tmp 0), some 16, none⟩, ⟨.assign (.tmp 16), some 4, none⟩])
  .ret) .skip))))))
  (.seq (.seq (.region [⟨.move (.tmp 1), some 17, none⟩, ⟨.binOp .lss 3 (.tmp 17) (.const (.int .i64 0)) 3, some 18, none⟩])
  (.cond (.tmp 18) (.region [⟨.makeInterface 9 (.const (.string ⟨#[115, 116, 114, 105, 110, 103, 115, 58, 32, 110, 101, 103, 97, 116, 105, 118, 101, 32, 82, 101, 112, 101, 97, 116, 32, 99, 111, 117, 110, 116]⟩)), some 19, none⟩, ⟨.panic (.tmp 19), none, none⟩]) .skip))
  (.seq (.region [⟨.move (.tmp 0), some 21, none⟩, ⟨.call ⟨.builtin .len, #[(.tmp 21)], #[9]⟩, some 22, none⟩, ⟨.convert 3 80 (.tmp 22), some 23, none⟩, ⟨.move (.tmp 1), some 24, none⟩, ⟨.convert 3 80 (.tmp 24), some 25, none⟩, ⟨.call ⟨.value (.func 80), #[(.tmp 23), (.tmp 25)], #[80, 80]⟩, some 26, none⟩, ⟨.move (.tmp 26), some 20, none⟩, ⟨.extract (.tmp 20) 0, some 27, none⟩, ⟨.extract (.tmp 20) 1, some 28, none⟩, ⟨.assign (.tmp 27), some 5, none⟩, ⟨.assign (.tmp 28), some 6, none⟩])
  (.seq (.seq (.region [⟨.move (.tmp 5), some 29, none⟩, ⟨.binOp .gtr 80 (.tmp 29) (.const (.int .u64 0)) 80, some 30, none⟩, ⟨.move (.tmp 30), some 31, none⟩, ⟨.move (.tmp 6), some 32, some (31, false)⟩, ⟨.binOp .gtr 80 (.tmp 32) (.const (.int .u64 9223372036854775807)) 80, some 33, some (31, false)⟩, ⟨.pick (.tmp 31) (.const (.bool true)) (.tmp 33), some 34, none⟩])
  (.cond (.tmp 34) (.region [⟨.makeInterface 9 (.const (.string ⟨#[115, 116, 114, 105, 110, 103, 115, 58, 32, 82, 101, 112, 101, 97, 116, 32, 111, 117, 116, 112, 117, 116, 32, 108, 101, 110, 103, 116, 104, 32, 111, 118, 101, 114, 102, 108, 111, 119]⟩)), some 35, none⟩, ⟨.panic (.tmp 35), none, none⟩]) .skip))
  (.seq (.region [⟨.move (.tmp 6), some 36, none⟩, ⟨.convert 80 3 (.tmp 36), some 37, none⟩, ⟨.assign (.tmp 37), some 7, none⟩])
  (.seq (.seq (.region [⟨.move (.tmp 0), some 38, none⟩, ⟨.call ⟨.builtin .len, #[(.tmp 38)], #[9]⟩, some 39, none⟩, ⟨.binOp .eql 3 (.tmp 39) (.const (.int .i64 0)) 3, some 40, none⟩])
  (.cond (.tmp 40) (.seq (.region [⟨.assign (.const (.string ⟨#[]⟩)), some 4, none⟩])
  .ret) .skip))
  (.seq (.seq (.region [⟨.move (.tmp 0), some 41, none⟩, ⟨.index 9 (.tmp 41) (.const (.int .i64 0)), some 42, none⟩])
  (.block 1 (.seq (.seq (.region [⟨.binOp .eql 5 (.tmp 42) (.const (.int .u8 32)) 5, some 44, none⟩, ⟨.assign (.tmp 44), some 43, none⟩])
  (.cond (.tmp 43) .skip (.seq (.region [⟨.binOp .eql 5 (.tmp 42) (.const (.int .u8 45)) 5, some 45, none⟩, ⟨.assign (.tmp 45), some 43, none⟩])
  (.cond (.tmp 43) .skip (.seq (.region [⟨.binOp .eql 5 (.tmp 42) (.const (.int .u8 48)) 5, some 46, none⟩, ⟨.assign (.tmp 46), some 43, none⟩])
  (.cond (.tmp 43) .skip (.seq (.region [⟨.binOp .eql 5 (.tmp 42) (.const (.int .u8 61)) 5, some 47, none⟩, ⟨.assign (.tmp 47), some 43, none⟩])
  (.cond (.tmp 43) .skip (.region [⟨.binOp .eql 5 (.tmp 42) (.const (.int .u8 9)) 5, some 48, none⟩, ⟨.assign (.tmp 48), some 43, none⟩])))))))))
  (.cond (.tmp 43) (.block 2 (.seq (.region [⟨.move (.tmp 7), some 50, none⟩, ⟨.binOp .leq 3 (.tmp 50) (.const (.int .i64 128)) 3, some 51, none⟩, ⟨.move (.tmp 51), some 52, none⟩, ⟨.move (.tmp 0), some 53, some (52, true)⟩, ⟨.call ⟨.value (.func 81), #[(.const (.string ⟨#[32, 32, 32, 32, 32, 32, 32, 32, 32, 32, 32, 32, 32, 32, 32, 32, 32, 32, 32, 32, 32, 32, 32, 32, 32, 32, 32, 32, 32, 32, 32, 32, 32, 32, 32, 32, 32, 32, 32, 32, 32, 32, 32, 32, 32, 32, 32, 32, 32, 32, 32, 32, 32, 32, 32, 32, 32, 32, 32, 32, 32, 32, 32, 32, 32, 32, 32, 32, 32, 32, 32, 32, 32, 32, 32, 32, 32, 32, 32, 32, 32, 32, 32, 32, 32, 32, 32, 32, 32, 32, 32, 32, 32, 32, 32, 32, 32, 32, 32, 32, 32, 32, 32, 32, 32, 32, 32, 32, 32, 32, 32, 32, 32, 32, 32, 32, 32, 32, 32, 32, 32, 32, 32, 32, 32, 32, 32, 32]⟩)), (.tmp 53)], #[9, 9]⟩, some 54, some (52, true)⟩, ⟨.pick (.tmp 52) (.tmp 54) (.const (.bool false)), some 55, none⟩, ⟨.assign (.tmp 55), some 49, none⟩])
  (.cond (.tmp 49) (.seq (.region [⟨.move (.tmp 7), some 56, none⟩, ⟨.slice 9 (.const (.string ⟨#[32, 32, 32, 32, 32, 32, 32, 32, 32, 32, 32, 32, 32, 32, 32, 32, 32, 32, 32, 32, 32, 32, 32, 32, 32, 32, 32, 32, 32, 32, 32, 32, 32, 32, 32, 32, 32, 32, 32, 32, 32, 32, 32, 32, 32, 32, 32, 32, 32, 32, 32, 32, 32, 32, 32, 32, 32, 32, 32, 32, 32, 32, 32, 32, 32, 32, 32, 32, 32, 32, 32, 32, 32, 32, 32, 32, 32, 32, 32, 32, 32, 32, 32, 32, 32, 32, 32, 32, 32, 32, 32, 32, 32, 32, 32, 32, 32, 32, 32, 32, 32, 32, 32, 32, 32, 32, 32, 32, 32, 32, 32, 32, 32, 32, 32, 32, 32, 32, 32, 32, 32, 32, 32, 32, 32, 32, 32, 32]⟩)) none (some (.tmp 56)) none, some 57, none⟩, ⟨.assign (.tmp 57), some 4, none⟩])
  .ret) (.seq (.region [⟨.move (.tmp 7), some 59, none⟩, ⟨.binOp .leq 3 (.tmp 59) (.const (.int .i64 128)) 3, some 60, none⟩, ⟨.move (.tmp 60), some 61, none⟩, ⟨.move (.tmp 0), some 62, some (61, true)⟩, ⟨.call ⟨.value (.func 81), #[(.const (.string ⟨#[45, 45, 45, 45, 45, 45, 45, 45, 45, 45, 45, 45, 45, 45, 45, 45, 45, 45, 45, 45, 45, 45, 45, 45, 45, 45, 45, 45, 45, 45, 45, 45, 45, 45, 45, 45, 45, 45, 45, 45, 45, 45, 45, 45, 45, 45, 45, 45, 45, 45, 45, 45, 45, 45, 45, 45, 45, 45, 45, 45, 45, 45, 45, 45, 45, 45, 45, 45, 45, 45, 45, 45, 45, 45, 45, 45, 45, 45, 45, 45, 45, 45, 45, 45, 45, 45, 45, 45, 45, 45, 45, 45, 45, 45, 45, 45, 45, 45, 45, 45, 45, 45, 45, 45, 45, 45, 45, 45, 45, 45, 45, 45, 45, 45, 45, 45, 45, 45, 45, 45, 45, 45, 45, 45, 45, 45, 45, 45]⟩)), (.tmp 62)], #[9, 9]⟩, some 63, some (61, true)⟩, ⟨.pick (.tmp 61) (.tmp 63) (.const (.bool false)), some 64, none⟩, ⟨.assign (.tmp 64), some 58, none⟩])
  (.cond (.tmp 58) (.seq (.region [⟨.move (.tmp 7), some 65, none⟩, ⟨.slice 9 (.const (.string ⟨#[45, 45, 45, 45, 45, 45, 45, 45, 45, 45, 45, 45, 45, 45, 45, 45, 45, 45, 45, 45, 45, 45, 45, 45, 45, 45, 45, 45, 45, 45, 45, 45, 45, 45, 45, 45, 45, 45, 45, 45, 45, 45, 45, 45, 45, 45, 45, 45, 45, 45, 45, 45, 45, 45, 45, 45, 45, 45, 45, 45, 45, 45, 45, 45, 45, 45, 45, 45, 45, 45, 45, 45, 45, 45, 45, 45, 45, 45, 45, 45, 45, 45, 45, 45, 45, 45, 45, 45, 45, 45, 45, 45, 45, 45, 45, 45, 45, 45, 45, 45, 45, 45, 45, 45, 45, 45, 45, 45, 45, 45, 45, 45, 45, 45, 45, 45, 45, 45, 45, 45, 45, 45, 45, 45, 45, 45, 45, 45]⟩)) none (some (.tmp 65)) none, some 66, none⟩, ⟨.assign (.tmp 66), some 4, none⟩])
  .ret) (.seq (.region [⟨.move (.tmp 7), some 68, none⟩, ⟨.binOp .leq 3 (.tmp 68) (.const (.int .i64 64)) 3, some 69, none⟩, ⟨.move (.tmp 69), some 70, none⟩, ⟨.move (.tmp 0), some 71, some (70, true)⟩, ⟨.call ⟨.value (.func 81), #[(.const (.string ⟨#[48, 48, 48, 48, 48, 48, 48, 48, 48, 48, 48, 48, 48, 48, 48, 48, 48, 48, 48, 48, 48, 48, 48, 48, 48, 48, 48, 48, 48, 48, 48, 48, 48, 48, 48, 48, 48, 48, 48, 48, 48, 48, 48, 48, 48, 48, 48, 48, 48, 48, 48, 48, 48, 48, 48, 48, 48, 48, 48, 48, 48, 48, 48, 48]⟩)), (.tmp 71)], #[9, 9]⟩, some 72, some (70, true)⟩, ⟨.pick (.tmp 70) (.tmp 72) (.const (.bool false)), some 73, none⟩, ⟨.assign (.tmp 73), some 67, none⟩])
  (.cond (.tmp 67) (.seq (.region [⟨.move (.tmp 7), some 74, none⟩, ⟨.slice 9 (.const (.string ⟨#[48, 48, 48, 48, 48, 48, 48, 48, 48, 48, 48, 48, 48, 48, 48, 48, 48, 48, 48, 48, 48, 48, 48, 48, 48, 48, 48, 48, 48, 48, 48, 48, 48, 48, 48, 48, 48, 48, 48, 48, 48, 48, 48, 48, 48, 48, 48, 48, 48, 48, 48, 48, 48, 48, 48, 48, 48, 48, 48, 48, 48, 48, 48, 48]⟩)) none (some (.tmp 74)) none, some 75, none⟩, ⟨.assign (.tmp 75), some 4, none⟩])
  .ret) (.seq (.region [⟨.move (.tmp 7), some 77, none⟩, ⟨.binOp .leq 3 (.tmp 77) (.const (.int .i64 128)) 3, some 78, none⟩, ⟨.move (.tmp 78), some 79, none⟩, ⟨.move (.tmp 0), some 80, some (79, true)⟩, ⟨.call ⟨.value (.func 81), #[(.const (.string ⟨#[61, 61, 61, 61, 61, 61, 61, 61, 61, 61, 61, 61, 61, 61, 61, 61, 61, 61, 61, 61, 61, 61, 61, 61, 61, 61, 61, 61, 61, 61, 61, 61, 61, 61, 61, 61, 61, 61, 61, 61, 61, 61, 61, 61, 61, 61, 61, 61, 61, 61, 61, 61, 61, 61, 61, 61, 61, 61, 61, 61, 61, 61, 61, 61, 61, 61, 61, 61, 61, 61, 61, 61, 61, 61, 61, 61, 61, 61, 61, 61, 61, 61, 61, 61, 61, 61, 61, 61, 61, 61, 61, 61, 61, 61, 61, 61, 61, 61, 61, 61, 61, 61, 61, 61, 61, 61, 61, 61, 61, 61, 61, 61, 61, 61, 61, 61, 61, 61, 61, 61, 61, 61, 61, 61, 61, 61, 61, 61]⟩)), (.tmp 80)], #[9, 9]⟩, some 81, some (79, true)⟩, ⟨.pick (.tmp 79) (.tmp 81) (.const (.bool false)), some 82, none⟩, ⟨.assign (.tmp 82), some 76, none⟩])
  (.cond (.tmp 76) (.seq (.region [⟨.move (.tmp 7), some 83, none⟩, ⟨.slice 9 (.const (.string ⟨#[61, 61, 61, 61, 61, 61, 61, 61, 61, 61, 61, 61, 61, 61, 61, 61, 61, 61, 61, 61, 61, 61, 61, 61, 61, 61, 61, 61, 61, 61, 61, 61, 61, 61, 61, 61, 61, 61, 61, 61, 61, 61, 61, 61, 61, 61, 61, 61, 61, 61, 61, 61, 61, 61, 61, 61, 61, 61, 61, 61, 61, 61, 61, 61, 61, 61, 61, 61, 61, 61, 61, 61, 61, 61, 61, 61, 61, 61, 61, 61, 61, 61, 61, 61, 61, 61, 61, 61, 61, 61, 61, 61, 61, 61, 61, 61, 61, 61, 61, 61, 61, 61, 61, 61, 61, 61, 61, 61, 61, 61, 61, 61, 61, 61, 61, 61, 61, 61, 61, 61, 61, 61, 61, 61, 61, 61, 61, 61]⟩)) none (some (.tmp 83)) none, some 84, none⟩, ⟨.assign (.tmp 84), some 4, none⟩])
  .ret) (.seq (.region [⟨.move (.tmp 7), some 86, none⟩, ⟨.binOp .leq 3 (.tmp 86) (.const (.int .i64 64)) 3, some 87, none⟩, ⟨.move (.tmp 87), some 88, none⟩, ⟨.move (.tmp 0), some 89, some (88, true)⟩, ⟨.call ⟨.value (.func 81), #[(.const (.string ⟨#[9, 9, 9, 9, 9, 9, 9, 9, 9, 9, 9, 9, 9, 9, 9, 9, 9, 9, 9, 9, 9, 9, 9, 9, 9, 9, 9, 9, 9, 9, 9, 9, 9, 9, 9, 9, 9, 9, 9, 9, 9, 9, 9, 9, 9, 9, 9, 9, 9, 9, 9, 9, 9, 9, 9, 9, 9, 9, 9, 9, 9, 9, 9, 9]⟩)), (.tmp 89)], #[9, 9]⟩, some 90, some (88, true)⟩, ⟨.pick (.tmp 88) (.tmp 90) (.const (.bool false)), some 91, none⟩, ⟨.assign (.tmp 91), some 85, none⟩])
  (.cond (.tmp 85) (.seq (.region [⟨.move (.tmp 7), some 92, none⟩, ⟨.slice 9 (.const (.string ⟨#[9, 9, 9, 9, 9, 9, 9, 9, 9, 9, 9, 9, 9, 9, 9, 9, 9, 9, 9, 9, 9, 9, 9, 9, 9, 9, 9, 9, 9, 9, 9, 9, 9, 9, 9, 9, 9, 9, 9, 9, 9, 9, 9, 9, 9, 9, 9, 9, 9, 9, 9, 9, 9, 9, 9, 9, 9, 9, 9, 9, 9, 9, 9, 9]⟩)) none (some (.tmp 92)) none, some 93, none⟩, ⟨.assign (.tmp 93), some 4, none⟩])
  .ret) .skip))))))))))) .skip))))
  (.seq (.region [⟨.move (.tmp 7), some 94, none⟩, ⟨.assign (.tmp 94), some 8, none⟩])
  (.seq (.seq (.region [⟨.move (.tmp 7), some 95, none⟩, ⟨.binOp .gtr 3 (.tmp 95) (.const (.int .i64 8192)) 3, some 96, none⟩])
  (.cond (.tmp 96) (.seq (.region [⟨.move (.tmp 0), some 97, none⟩, ⟨.call ⟨.builtin .len, #[(.tmp 97)], #[9]⟩, some 98, none⟩, ⟨.binOp .quo 3 (.const (.int .i64 8192)) (.tmp 98) 3, some 99, none⟩, ⟨.move (.tmp 0), some 100, none⟩, ⟨.call ⟨.builtin .len, #[(.tmp 100)], #[9]⟩, some 101, none⟩, ⟨.binOp .mul 3 (.tmp 99) (.tmp 101) 3, some 102, none⟩, ⟨.assign (.tmp 102), some 8, none⟩])
  (.seq (.region [⟨.move (.tmp 8), some 103, none⟩, ⟨.binOp .eql 3 (.tmp 103) (.const (.int .i64 0)) 3, some 104, none⟩])
  (.cond (.tmp 104) (.region [⟨.move (.tmp 0), some 105, none⟩, ⟨.call ⟨.builtin .len, #[(.tmp 105)], #[9]⟩, some 106, none⟩, ⟨.assign (.tmp 106), some 8, none⟩]) .skip))) .skip))
  (.seq (.region [⟨.alloc 106, some 9, none⟩])
  (.seq (.region [⟨.move (.tmp 7), some 107, none⟩, ⟨.call ⟨.value (.func 82), #[(.tmp 9), (.tmp 107)], #[106, 3]⟩, some 108, none⟩])
  (.seq (.region [⟨.move (.tmp 0), some 109, none⟩, ⟨.call ⟨.value (.func 42), #[(.tmp 9), (.tmp 109)], #[106, 9]⟩, some 110, none⟩])
  (.seq (.block 3 (.loop (.seq (.seq (.region [⟨.call ⟨.value (.func 83), #[(.tmp 9)], #[106]⟩, some 111, none⟩, ⟨.move (.tmp 7), some 112, none⟩, ⟨.binOp .lss 3 (.tmp 111) (.tmp 112) 3, some 113, none⟩])
  (.cond (.tmp 113) .skip (.exit 3)))
  (.block 4 (.seq (.region [⟨.move (.tmp 7), some 114, none⟩, ⟨.call ⟨.value (.func 83), #[(.tmp 9)], #[106]⟩, some 115, none⟩, ⟨.binOp .sub 3 (.tmp 114) (.tmp 115) 3, some 116, none⟩, ⟨.call ⟨.value (.func 83), #[(.tmp 9)], #[106]⟩, some 117, none⟩, ⟨.move (.tmp 8), some 118, none⟩, ⟨.call ⟨.builtin .min, #[(.tmp 116), (.tmp 117), (.tmp 118)], #[3, 3, 3]⟩, some 119, none⟩, ⟨.assign (.tmp 119), some 10, none⟩])
  (.region [⟨.call ⟨.value (.func 43), #[(.tmp 9)], #[106]⟩, some 120, none⟩, ⟨.move (.tmp 10), some 121, none⟩, ⟨.slice 9 (.tmp 120) none (some (.tmp 121)) none, some 122, none⟩, ⟨.call ⟨.value (.func 42), #[(.tmp 9), (.tmp 122)], #[106, 9]⟩, some 123, none⟩]))))))
  (.seq (.region [⟨.call ⟨.value (.func 43), #[(.tmp 9)], #[106]⟩, some 124, none⟩, ⟨.assign (.tmp 124), some 4, none⟩])
  .ret)))))))))))))))
theorem c50_of : SC.of Tryz.f50.body.get! = c50 := by kernel_rfl
theorem body50 : Tryz.f50.body = some (Tryz.f50.body.get!) := by kernel_rfl
theorem nt50 : Tryz.f50.ntmps = 125 := by kernel_rfl
theorem res50 : Tryz.f50.results.toList = [.tmp 4] := by kernel_rfl
theorem repeat0_ok (hs : ∀ xs st, sum 50 xs st = none) (s : List UInt8) (st : St) : CallW (CS sum) 50 [.str s, .int .i64 0] st fun v st' => v = .str [] ∧ st' = st := by
  refine CallW.enter (hs _ _) Tryz.func50 body50 c50_of rfl ?_
  rw [nt50]
  unfold c50
  refine WK.seq ?_
  refine WK.region ?_
  refine WR.op rfl rfl rfl rfl ?_
  refine WR.nil ?_
  refine after.seq ?_
  refine WK.seq ?_
  refine WK.seq ?_
  refine WK.region ?_
  refine WR.op rfl rfl rfl rfl ?_
  refine WR.nil ?_
  refine after.seq ?_
  refine WK.block ?_
  refine WK.seq ?_
  refine WK.region ?_
  refine WR.op rfl rfl rfl rfl ?_
  refine WR.op rfl rfl rfl rfl ?_
  refine WR.nil ?_
  refine after.seq ?_
  refine WK.cond rfl (fun _ => ?_) (fun h => (by cases h))
  refine WK.seq ?_
  refine WK.region ?_
  refine WR.op rfl rfl rfl rfl ?_
  refine WR.nil ?_
  refine after.seq ?_
  refine WK.ret ?_
  refine after.block_ret ?_
  refine after.seq_ret ?_
  exact ⟨ret_ne 0, ret_ne, [.str []], (by rw [res50]; rfl), rfl, rfl⟩
end Go.Proofs.Tz

namespace Go.Proofs.Tz
open Go Go.AE Go.RowKit Go.Proofs
set_option maxRecDepth 100000
theorem un153 : und Tryz.prog 153 = some (.map 9 4) := by kernel_rfl
theorem key9 : keyOk Tryz.prog 9 = true := by kernel_rfl
theorem ze4 : zeroT Tryz.prog 4 = some (.bool false) := by kernel_rfl
theorem ze75 : zeroT Tryz.prog 75 = some (.agg [.str [], .str [], .int .i64 0, .nils, .nils, .str [], .str [], .str [], .str [], .bool false, .nils, .int .i64 0, .str [], .str [], .str [], .int .i64 0]) := by kernel_rfl
theorem ze72 : zeroT Tryz.prog 72 = some (.agg [.str [], .str []]) := by kernel_rfl
theorem un88 : und Tryz.prog 88 = some (.slice 75) := by kernel_rfl
theorem by75 : ∃ n, bytesT Tryz.prog 75 = some n ∧ Nat.ble 1 n = true ∧ Nat.ble n 65536 = true := ⟨(bytesT Tryz.prog 75).getD 0, by kernel_rfl, by kernel_rfl, by kernel_rfl⟩
theorem aeq9 (a b : List UInt8) : aeq Tryz.prog 20 9 (.str a) (.str b) = some (eqL a b) := by
  show aeqStep Tryz.prog (aeq Tryz.prog 19) 9 (.str a) (.str b) = _
  simp only [aeqStep, un9]
theorem same_strK (a : List UInt8) (b : List UInt8) (h : eqL a b = true) : sameK (.str a) (.str b) = true := by
  show eqL a b = true
  exact h
variable {ρ : Rho} {st : St} {x y z : Operand} {m : Nat} {a b : List UInt8}
theorem r_lk0 (hx : ρ x = some (.map m)) (hy : ρ y = some (.str b)) (hm : st.heap.get m = some (.map [])) : aopR Tryz.prog ρ st (.lookup 153 x y false) = some (.bool false, st) := by
  have h : AE.lookup Tryz.prog st 153 (.map m) (.str b) false = some (.bool false) := by
    simp only [AE.lookup, un153, key9, cond_true, hm, bnd_some, findKey, ze4, cnd_false]
  simp only [aopR, hx, hy, bnd_some, oLookup, h, pairS]
theorem r_lk1 {q : Bool} (hx : ρ x = some (.map m)) (hy : ρ y = some (.str b)) (hm : st.heap.get m = some (.map [(.str a, .bool true)])) (hq : eqL b a = q) : aopR Tryz.prog ρ st (.lookup 153 x y false) = some (.bool q, st) := by
  have h : AE.lookup Tryz.prog st 153 (.map m) (.str b) false = some (.bool q) := by
    cases q with
    | true => simp only [AE.lookup, un153, key9, cond_true, hm, bnd_some, findKey, aeq9, hq, cnd_true, cnd_false]
    | false => simp only [AE.lookup, un153, key9, cond_true, hm, bnd_some, findKey, aeq9, hq, cnd_false, ze4]
  simp only [aopR, hx, hy, bnd_some, oLookup, h, pairS]
theorem r_up0 (hx : ρ x = some (.map m)) (hy : ρ y = some (.str b)) (hz : ρ z = some (.bool true)) (hm : st.heap.get m = some (.map [])) : aopR Tryz.prog ρ st (.mapUpdate 153 x y z) = some (.tup [], st.setObj m (.map [(.str b, .bool true)])) := by
  have h : AE.mapUpdate Tryz.prog st 153 (.map m) (.str b) (.bool true) = some (st.setObj m (.map [(.str b, .bool true)])) := by
    simp only [AE.mapUpdate, un153, hm, key9, cnd_true, putKey, bnd_some]
  simp only [aopR, hx, hy, hz, bnd_some, oUpdate, h]
theorem r_up1 (hx : ρ x = some (.map m)) (hy : ρ y = some (.str b)) (hz : ρ z = some (.bool true)) (hm : st.heap.get m = some (.map [(.str a, .bool true)])) (hq : eqL b a = false) : aopR Tryz.prog ρ st (.mapUpdate 153 x y z) = some (.tup [], st.setObj m (.map [(.str a, .bool true), (.str b, .bool true)])) := by
  have h : AE.mapUpdate Tryz.prog st 153 (.map m) (.str b) (.bool true) = some (st.setObj m (.map [(.str a, .bool true), (.str b, .bool true)])) := by
    simp only [AE.mapUpdate, un153, hm, key9, cnd_true, putKey, aeq9, hq, cnd_false, bnd_some]
  simp only [aopR, hx, hy, hz, bnd_some, oUpdate, h]
end Go.Proofs.Tz

namespace Go.Proofs.Tz
open Go Go.AE Go.RowKit Go.Proofs
set_option maxRecDepth 100000
variable {sum : FuncId → List AV → St → Option (AV × St)}
/-- A style, and what it tells of a number. -/
structure Sty where
  base : D
  txt : List UInt8
  ok : Bool
def Sty.name (s : Sty) : List UInt8 := s.base.name
def Sty.fb (s : Sty) : List UInt8 := s.base.fb
structure IsSty (C : Ctx) (n : Int) (N : Nat → Prop) (st : St) (d : D) (s : Sty) : Prop where
  plain : d.Plain
  base : d = { s.base with syms := d.syms, weights := d.weights, range := d.range }
  tell : ∀ st', Same N st st' → CallW C 47 [d.av, .int .i64 n] st' fun v st2 => v = .tup [.str s.txt, .bool s.ok] ∧ Ext st' st2
theorem IsSty.name {C : Ctx} {n : Int} {N : Nat → Prop} {st : St} {d : D} {s : Sty} (h : IsSty C n N st d s) : d.name = s.name := by rw [h.base]; rfl
theorem IsSty.fb {C : Ctx} {n : Int} {N : Nat → Prop} {st : St} {d : D} {s : Sty} (h : IsSty C n N st d s) : d.fb = s.fb := by rw [h.base]; rfl
theorem IsSty.same {C : Ctx} {n : Int} {N : Nat → Prop} {st st' : St} {d : D} {s : Sty} (h : IsSty C n N st d s) (k : Same N st st') : IsSty C n N st' d s := ⟨h.plain, h.base, fun st2 k2 => h.tell st2 (k.trans k2)⟩
/-- What or's answer stands on. -/
def Own (b0 lo hi k : Nat) : Prop := k < b0 ∨ (lo ≤ k ∧ k < hi)
def OrW (C : Ctx) (n : Int) (r : AV) (name : List UInt8) (b0 : Nat) (st : St) (s : Sty) : Prop := ∀ st', Same (fun k => k < b0) st st' → CallW C 55 [r, .str name] st' fun v st2 => (∃ d, v = d.av ∧ IsSty C n (Own b0 st'.next st2.next) st2 d s) ∧ Ext st' st2
def tDecimal : List UInt8 := [100, 101, 99, 105, 109, 97, 108]
/-- (*fleuron/registry.Registry).chain -/
def c46 : SC := (.seq (.region [⟨.assign (.const (.slice none 0 0)), some 6, none⟩])
  (.seq (.region [⟨.makeMap 153 none, some 11, none⟩, ⟨.assign (.tmp 11), some 7, none⟩])
  (.seq (.region [⟨.move (.tmp 0), some 12, none⟩, ⟨.move (.tmp 1), some 13, none⟩, ⟨.call ⟨.value (.func 55), #[(.tmp 12), (.tmp 13)], #[36, 9]⟩, some 14, none⟩, ⟨.alloc 75, some 8, none⟩, ⟨.store 75 (.tmp 8) (.tmp 14), none, none⟩])
  (.block 0 (.loop (.seq (.block 1 (.seq (.seq (.region [⟨.move (.tmp 7), some 19, none⟩, ⟨.fieldAddr 75 (.tmp 8) 0, some 20, none⟩, ⟨.load 9 (.tmp 20), some 21, none⟩, ⟨.lookup 153 (.tmp 19) (.tmp 21) false, some 22, none⟩])
  (.cond (.tmp 22) (.region [⟨.move (.tmp 0), some 23, none⟩, ⟨.call ⟨.value (.func 55), #[(.tmp 23), (.const (.string ⟨#[100, 101, 99, 105, 109, 97, 108]⟩))], #[36, 9]⟩, some 24, none⟩, ⟨.store 75 (.tmp 8) (.tmp 24), none, none⟩]) .skip))
  (.seq (.region [⟨.move (.tmp 7), some 25, none⟩, ⟨.fieldAddr 75 (.tmp 8) 0, some 26, none⟩, ⟨.load 9 (.tmp 26), some 27, none⟩, ⟨.mapUpdate 153 (.tmp 25) (.tmp 27) (.const (.bool true)), none, none⟩])
  (.seq (.region [⟨.move (.tmp 6), some 28, none⟩, ⟨.load 75 (.tmp 8), some 29, none⟩, ⟨.buildSlice 88 1 #[(0, (.tmp 29))], some 30, none⟩, ⟨.call ⟨.builtin .append, #[(.tmp 28), (.tmp 30)], #[88, 88]⟩, some 31, none⟩, ⟨.assign (.tmp 31), some 6, none⟩])
  (.seq (.region [⟨.load 75 (.tmp 8), some 33, none⟩, ⟨.move (.tmp 2), some 34, none⟩, ⟨.call ⟨.value (.func 47), #[(.tmp 33), (.tmp 34)], #[75, 3]⟩, some 35, none⟩, ⟨.move (.tmp 35), some 32, none⟩, ⟨.extract (.tmp 32) 0, some 36, none⟩, ⟨.extract (.tmp 32) 1, some 37, none⟩, ⟨.assign (.tmp 36), some 9, none⟩, ⟨.assign (.tmp 37), some 10, none⟩])
  (.seq (.region [⟨.move (.tmp 10), some 38, none⟩, ⟨.move (.tmp 38), some 39, none⟩, ⟨.fieldAddr 75 (.tmp 8) 0, some 40, some (39, false)⟩, ⟨.load 9 (.tmp 40), some 41, some (39, false)⟩, ⟨.binOp .eql 9 (.tmp 41) (.const (.string ⟨#[100, 101, 99, 105, 109, 97, 108]⟩)) 9, some 42, some (39, false)⟩, ⟨.pick (.tmp 39) (.const (.bool true)) (.tmp 42), some 43, none⟩])
  (.cond (.tmp 43) (.seq (.region [⟨.move (.tmp 6), some 44, none⟩, ⟨.assign (.tmp 44), some 6, none⟩])
  .ret) .skip)))))))
  (.seq (.seq (.region [⟨.load 75 (.tmp 8), some 45, none⟩])
  (.region [⟨.alloc 75, some 8, none⟩, ⟨.store 75 (.tmp 8) (.tmp 45), none, none⟩]))
  (.region [⟨.move (.tmp 0), some 15, none⟩, ⟨.fieldAddr 75 (.tmp 8) 12, some 16, none⟩, ⟨.load 9 (.tmp 16), some 17, none⟩, ⟨.call ⟨.value (.func 55), #[(.tmp 15), (.tmp 17)], #[36, 9]⟩, some 18, none⟩, ⟨.store 75 (.tmp 8) (.tmp 18), none, none⟩]))))))))
theorem c46_of : SC.of Tryz.f46.body.get! = c46 := by kernel_rfl
theorem body46 : Tryz.f46.body = some (Tryz.f46.body.get!) := by kernel_rfl
theorem nt46 : Tryz.f46.ntmps = 46 := by kernel_rfl
theorem res46 : Tryz.f46.results.toList = [.tmp 6] := by kernel_rfl
theorem chain_one (hs : ∀ xs st, sum 46 xs st = none) {n : Int} {b k : Nat} {name : List UInt8} {s : Sty} {st : St} {b0 : Nat} (hb0 : b0 ≤ st.next) (hor : OrW (CS sum) n (.ptr b k) name b0 st s) (hend : s.ok = true ∨ eqL s.name tDecimal = true) :
    CallW (CS sum) 46 [.ptr b k, .str name, .int .i64 n] st fun v st' => (∃ d f lo hi, st.next ≤ lo ∧ hi ≤ st'.next ∧ IsSty (CS sum) n (Own b0 lo hi) st' d s ∧ IsRow st' v f 75 16 [d.cells]) ∧ Ext st st' := by
  obtain ⟨nb, hb1, hb2, hb3⟩ := by75
  have hm0 := push_self st (.map [])
  have hxt0 : Ext st (st.push (.map [])) := (Ext.refl st).push _
  have hlt0 : st.next < (st.push (.map [])).next := by rw [push_next]; omega
  cases hok : s.ok with
  | true =>
    refine CallW.enter (hs _ _) Tryz.func46 body46 c46_of rfl ?_
    rw [nt46]
    unfold c46
    refine WK.seq ?_
    refine WK.region ?_
    refine WR.op rfl rfl rfl rfl ?_
    refine WR.nil ?_
    refine after.seq ?_
    refine WK.seq ?_
    refine WK.region ?_
    refine WR.op rfl rfl rfl rfl ?_
    refine WR.op rfl rfl rfl rfl ?_
    refine WR.nil ?_
    refine after.seq ?_
    refine WK.seq ?_
    refine WK.region ?_
    refine WR.op rfl rfl rfl rfl ?_
    refine WR.op rfl rfl rfl rfl ?_
    refine WR.call (f := 55) («as» := [.ptr b k, .str name]) rfl (.inl rfl) rfl rfl rfl rfl ((hor _ (hxt0.same fun k hk => Nat.lt_of_lt_of_le hk hb0)).mono ?_)
    rintro v1 st1 ⟨⟨d, rfl, hsty⟩, k1⟩
    have hm1 : st1.heap.get st.next = some (.map []) := by rw [k1.heap _ hlt0]; exact hm0
    have hx1 : Ext st st1 := hxt0.trans k1
    have hnb := push_self st1 (boxO 75 (.agg [.str [], .str [], .int .i64 0, .nils, .nils, .str [], .str [], .str [], .str [], .bool false, .nils, .int .i64 0, .str [], .str [], .str [], .int .i64 0]))
    obtain ⟨st2, hst2⟩ : ∃ s, s = (st1.push (boxO 75 (.agg [.str [], .str [], .int .i64 0, .nils, .nils, .str [], .str [], .str [], .str [], .bool false, .nils, .int .i64 0, .str [], .str [], .str [], .int .i64 0]))).setObj st1.next (boxO 75 d.av) := ⟨_, rfl⟩
    have hd2 : st2.heap.get st1.next = some (boxO 75 d.av) := by rw [hst2, set_get, if_pos rfl]
    have hn2 : st2.next = st1.next + 1 := by rw [hst2, set_next, push_next]
    have hml : st.next < st1.next := Nat.lt_of_lt_of_le hlt0 k1.nx
    have hx12 : Ext st1 st2 := by rw [hst2]; exact ((Ext.refl st1).push _).set (Nat.le_refl _) _
    have hm2 : st2.heap.get st.next = some (.map []) := by rw [hx12.heap _ hml]; exact hm1
    obtain ⟨st3, hst3⟩ : ∃ s, s = st2.setObj st.next (.map [(.str d.name, .bool true)]) := ⟨_, rfl⟩
    have hx3 : Ext st st3 := by rw [hst3]; exact (hx1.trans hx12).set (Nat.le_refl _) _
    have hN1 : ∀ k, Own b0 (st.push (.map [])).next st1.next k → k < st1.next := fun k hk => hk.elim (fun h => by omega) (fun h => h.2)
    have hNm : ¬ Own b0 (st.push (.map [])).next st1.next st.next := fun hk => hk.elim (fun h => by omega) (fun h => by omega)
    have hS13 : Same (Own b0 (st.push (.map [])).next st1.next) st1 st3 := by rw [hst3]; exact (hx12.same hN1).trans (Same.set hNm _)
    have hn3 : st3.next = st2.next := by rw [hst3, set_next]
    have hd3 : st3.heap.get st1.next = some (boxO 75 d.av) := by rw [hst3, set_get, if_neg (by omega)]; exact hd2
    refine WR.op rfl rfl (r_alloc ze75 rfl) rfl ?_
    refine WR.op0 rfl rfl (r_st (v := .agg [.str [], .str [], .int .i64 0, .nils, .nils, .str [], .str [], .str [], .str [], .bool false, .nils, .int .i64 0, .str [], .str [], .str [], .int .i64 0]) (u := d.av) sz75 rfl rfl hnb rfl hsty.plain.ok) ?_
    rw [← hst2]
    refine WR.nil ?_
    refine after.seq ?_
    refine WK.block ?_
    refine WK.loop ?_
    refine WK.seq ?_
    refine WK.block ?_
    refine WK.seq ?_
    refine WK.seq ?_
    refine WK.region ?_
    refine WR.op rfl rfl rfl rfl ?_
    refine WR.op rfl rfl (r_fa fo75_0 rfl) rfl ?_
    refine WR.op rfl rfl (r_ld agg9 rfl hd2 rfl) rfl ?_
    refine WR.op rfl rfl (r_lk0 rfl rfl hm2) rfl ?_
    refine WR.nil ?_
    refine after.seq ?_
    refine WK.cond rfl (fun h => (by cases h)) (fun _ => ?_)
    refine WK.skip ?_
    refine after.seq ?_
    refine WK.seq ?_
    refine WK.region ?_
    refine WR.op rfl rfl rfl rfl ?_
    refine WR.op rfl rfl (r_fa fo75_0 rfl) rfl ?_
    refine WR.op rfl rfl (r_ld agg9 rfl hd2 rfl) rfl ?_
    refine WR.op0 rfl rfl (r_up0 rfl rfl rfl hm2) ?_
    rw [← hst3]
    refine WR.nil ?_
    refine after.seq ?_
    refine WK.seq ?_
    refine WK.region ?_
    refine WR.op rfl rfl rfl rfl ?_
    refine WR.op rfl rfl (r_ldA agg75 sz75 rfl hd3 (Nat.le_refl 16) rfl) rfl ?_
    refine WR.appA (st0 := st3) (v := d.av) un88 sz75 (by decide) (by decide) hb1 hb2 hb3 ze75 rfl rfl rfl rfl (by have := hsty.plain.ok; simp only [Bool.and_eq_true] at this; exact this.1) rfl rfl rfl (.inl ⟨rfl, rfl⟩ : IsRow st3 .nils 0 75 16 []) (Ext.refl st3) (.inl rfl) (by simp) ?_
    intro x2 st4 f2 hrow2 hext2 hf2 hh4 _ hn4 _ _
    have hd4 : st4.heap.get st1.next = some (boxO 75 d.av) := by rw [hh4 _ (by omega)]; exact hd3
    have hlt4 : st1.next < st4.next := by omega
    have hS14 : Same (Own b0 (st.push (.map [])).next st1.next) st1 st4 := hS13.trans (hext2.same fun k hk => by have := hN1 k hk; omega)
    refine WR.op rfl rfl rfl rfl ?_
    refine WR.nil ?_
    refine after.seq ?_
    refine WK.seq ?_
    refine WK.region ?_
    refine WR.op rfl rfl (r_ldA agg75 sz75 rfl hd4 (Nat.le_refl 16) rfl) rfl ?_
    refine WR.op rfl rfl rfl rfl ?_
    refine WR.call (f := 47) («as» := [d.av, .int .i64 n]) rfl (.inl rfl) rfl rfl rfl rfl ((hsty.tell _ hS14).mono ?_)
    rw [hok]
    rintro v5 st5 ⟨rfl, k5⟩
    have hd5 : st5.heap.get st1.next = some (boxO 75 d.av) := by rw [k5.heap _ hlt4]; exact hd4
    refine WR.op rfl rfl rfl rfl ?_
    refine WR.op rfl rfl rfl rfl ?_
    refine WR.op rfl rfl rfl rfl ?_
    refine WR.op rfl rfl rfl rfl ?_
    refine WR.op rfl rfl rfl rfl ?_
    refine WR.nil ?_
    refine after.seq ?_
    refine WK.seq ?_
    refine WK.region ?_
    refine WR.op rfl rfl rfl rfl ?_
    refine WR.op rfl rfl rfl rfl ?_
    refine WR.off rfl rfl rfl rfl rfl ?_
    refine WR.off rfl rfl rfl rfl rfl ?_
    refine WR.off rfl rfl rfl rfl rfl ?_
    refine WR.op rfl rfl rfl rfl ?_
    refine WR.nil ?_
    refine after.seq ?_
    refine WK.cond rfl (fun _ => ?_) (fun h => (by cases h))
    refine WK.seq ?_
    refine WK.region ?_
    refine WR.op rfl rfl rfl rfl ?_
    refine WR.op rfl rfl rfl rfl ?_
    refine WR.nil ?_
    refine after.seq ?_
    refine WK.ret ?_
    refine after.block_ret ?_
    refine after.seq_ret ?_
    refine after.seq_ret ?_
    refine after.block_ret ?_
    exact ⟨ret_ne 0, ret_ne, [x2], (by rw [res46]; rfl), ⟨d, f2, _, _, Nat.le_of_lt hlt0, Nat.le_trans (Nat.le_of_lt hlt4) k5.nx, hsty.same (hS14.trans (k5.same fun k hk => by have := hN1 k hk; omega)), hrow2.ext k5⟩, (hx3.trans hext2).trans k5⟩
  | false =>
    have hnm : eqL s.name tDecimal = true := hend.resolve_left (by rw [hok]; decide)
    refine CallW.enter (hs _ _) Tryz.func46 body46 c46_of rfl ?_
    rw [nt46]
    unfold c46
    refine WK.seq ?_
    refine WK.region ?_
    refine WR.op rfl rfl rfl rfl ?_
    refine WR.nil ?_
    refine after.seq ?_
    refine WK.seq ?_
    refine WK.region ?_
    refine WR.op rfl rfl rfl rfl ?_
    refine WR.op rfl rfl rfl rfl ?_
    refine WR.nil ?_
    refine after.seq ?_
    refine WK.seq ?_
    refine WK.region ?_
    refine WR.op rfl rfl rfl rfl ?_
    refine WR.op rfl rfl rfl rfl ?_
    refine WR.call (f := 55) («as» := [.ptr b k, .str name]) rfl (.inl rfl) rfl rfl rfl rfl ((hor _ (hxt0.same fun k hk => Nat.lt_of_lt_of_le hk hb0)).mono ?_)
    rintro v1 st1 ⟨⟨d, rfl, hsty⟩, k1⟩
    have hm1 : st1.heap.get st.next = some (.map []) := by rw [k1.heap _ hlt0]; exact hm0
    have hx1 : Ext st st1 := hxt0.trans k1
    have hnb := push_self st1 (boxO 75 (.agg [.str [], .str [], .int .i64 0, .nils, .nils, .str [], .str [], .str [], .str [], .bool false, .nils, .int .i64 0, .str [], .str [], .str [], .int .i64 0]))
    obtain ⟨st2, hst2⟩ : ∃ s, s = (st1.push (boxO 75 (.agg [.str [], .str [], .int .i64 0, .nils, .nils, .str [], .str [], .str [], .str [], .bool false, .nils, .int .i64 0, .str [], .str [], .str [], .int .i64 0]))).setObj st1.next (boxO 75 d.av) := ⟨_, rfl⟩
    have hd2 : st2.heap.get st1.next = some (boxO 75 d.av) := by rw [hst2, set_get, if_pos rfl]
    have hn2 : st2.next = st1.next + 1 := by rw [hst2, set_next, push_next]
    have hml : st.next < st1.next := Nat.lt_of_lt_of_le hlt0 k1.nx
    have hx12 : Ext st1 st2 := by rw [hst2]; exact ((Ext.refl st1).push _).set (Nat.le_refl _) _
    have hm2 : st2.heap.get st.next = some (.map []) := by rw [hx12.heap _ hml]; exact hm1
    obtain ⟨st3, hst3⟩ : ∃ s, s = st2.setObj st.next (.map [(.str d.name, .bool true)]) := ⟨_, rfl⟩
    have hx3 : Ext st st3 := by rw [hst3]; exact (hx1.trans hx12).set (Nat.le_refl _) _
    have hN1 : ∀ k, Own b0 (st.push (.map [])).next st1.next k → k < st1.next := fun k hk => hk.elim (fun h => by omega) (fun h => h.2)
    have hNm : ¬ Own b0 (st.push (.map [])).next st1.next st.next := fun hk => hk.elim (fun h => by omega) (fun h => by omega)
    have hS13 : Same (Own b0 (st.push (.map [])).next st1.next) st1 st3 := by rw [hst3]; exact (hx12.same hN1).trans (Same.set hNm _)
    have hn3 : st3.next = st2.next := by rw [hst3, set_next]
    have hd3 : st3.heap.get st1.next = some (boxO 75 d.av) := by rw [hst3, set_get, if_neg (by omega)]; exact hd2
    refine WR.op rfl rfl (r_alloc ze75 rfl) rfl ?_
    refine WR.op0 rfl rfl (r_st (v := .agg [.str [], .str [], .int .i64 0, .nils, .nils, .str [], .str [], .str [], .str [], .bool false, .nils, .int .i64 0, .str [], .str [], .str [], .int .i64 0]) (u := d.av) sz75 rfl rfl hnb rfl hsty.plain.ok) ?_
    rw [← hst2]
    refine WR.nil ?_
    refine after.seq ?_
    refine WK.block ?_
    refine WK.loop ?_
    refine WK.seq ?_
    refine WK.block ?_
    refine WK.seq ?_
    refine WK.seq ?_
    refine WK.region ?_
    refine WR.op rfl rfl rfl rfl ?_
    refine WR.op rfl rfl (r_fa fo75_0 rfl) rfl ?_
    refine WR.op rfl rfl (r_ld agg9 rfl hd2 rfl) rfl ?_
    refine WR.op rfl rfl (r_lk0 rfl rfl hm2) rfl ?_
    refine WR.nil ?_
    refine after.seq ?_
    refine WK.cond rfl (fun h => (by cases h)) (fun _ => ?_)
    refine WK.skip ?_
    refine after.seq ?_
    refine WK.seq ?_
    refine WK.region ?_
    refine WR.op rfl rfl rfl rfl ?_
    refine WR.op rfl rfl (r_fa fo75_0 rfl) rfl ?_
    refine WR.op rfl rfl (r_ld agg9 rfl hd2 rfl) rfl ?_
    refine WR.op0 rfl rfl (r_up0 rfl rfl rfl hm2) ?_
    rw [← hst3]
    refine WR.nil ?_
    refine after.seq ?_
    refine WK.seq ?_
    refine WK.region ?_
    refine WR.op rfl rfl rfl rfl ?_
    refine WR.op rfl rfl (r_ldA agg75 sz75 rfl hd3 (Nat.le_refl 16) rfl) rfl ?_
    refine WR.appA (st0 := st3) (v := d.av) un88 sz75 (by decide) (by decide) hb1 hb2 hb3 ze75 rfl rfl rfl rfl (by have := hsty.plain.ok; simp only [Bool.and_eq_true] at this; exact this.1) rfl rfl rfl (.inl ⟨rfl, rfl⟩ : IsRow st3 .nils 0 75 16 []) (Ext.refl st3) (.inl rfl) (by simp) ?_
    intro x2 st4 f2 hrow2 hext2 hf2 hh4 _ hn4 _ _
    have hd4 : st4.heap.get st1.next = some (boxO 75 d.av) := by rw [hh4 _ (by omega)]; exact hd3
    have hlt4 : st1.next < st4.next := by omega
    have hS14 : Same (Own b0 (st.push (.map [])).next st1.next) st1 st4 := hS13.trans (hext2.same fun k hk => by have := hN1 k hk; omega)
    refine WR.op rfl rfl rfl rfl ?_
    refine WR.nil ?_
    refine after.seq ?_
    refine WK.seq ?_
    refine WK.region ?_
    refine WR.op rfl rfl (r_ldA agg75 sz75 rfl hd4 (Nat.le_refl 16) rfl) rfl ?_
    refine WR.op rfl rfl rfl rfl ?_
    refine WR.call (f := 47) («as» := [d.av, .int .i64 n]) rfl (.inl rfl) rfl rfl rfl rfl ((hsty.tell _ hS14).mono ?_)
    rw [hok]
    rintro v5 st5 ⟨rfl, k5⟩
    have hd5 : st5.heap.get st1.next = some (boxO 75 d.av) := by rw [k5.heap _ hlt4]; exact hd4
    refine WR.op rfl rfl rfl rfl ?_
    refine WR.op rfl rfl rfl rfl ?_
    refine WR.op rfl rfl rfl rfl ?_
    refine WR.op rfl rfl rfl rfl ?_
    refine WR.op rfl rfl rfl rfl ?_
    refine WR.nil ?_
    refine after.seq ?_
    refine WK.seq ?_
    refine WK.region ?_
    refine WR.op rfl rfl rfl rfl ?_
    refine WR.op rfl rfl rfl rfl ?_
    refine WR.opG rfl rfl rfl (r_fa fo75_0 rfl) rfl ?_
    refine WR.opG rfl rfl rfl (r_ld agg9 rfl hd5 rfl) rfl ?_
    refine WR.opG rfl rfl rfl (r_seql rfl rfl (q := true) (by rw [hsty.name]; exact hnm)) rfl ?_
    refine WR.op rfl rfl rfl rfl ?_
    refine WR.nil ?_
    refine after.seq ?_
    refine WK.cond rfl (fun _ => ?_) (fun h => (by cases h))
    refine WK.seq ?_
    refine WK.region ?_
    refine WR.op rfl rfl rfl rfl ?_
    refine WR.op rfl rfl rfl rfl ?_
    refine WR.nil ?_
    refine after.seq ?_
    refine WK.ret ?_
    refine after.block_ret ?_
    refine after.seq_ret ?_
    refine after.seq_ret ?_
    refine after.block_ret ?_
    exact ⟨ret_ne 0, ret_ne, [x2], (by rw [res46]; rfl), ⟨d, f2, _, _, Nat.le_of_lt hlt0, Nat.le_trans (Nat.le_of_lt hlt4) k5.nx, hsty.same (hS14.trans (k5.same fun k hk => by have := hN1 k hk; omega)), hrow2.ext k5⟩, (hx3.trans hext2).trans k5⟩
end Go.Proofs.Tz

namespace Go.Proofs.Tz
open Go Go.AE Go.RowKit Go.Proofs
set_option maxRecDepth 100000
variable {sum : FuncId → List AV → St → Option (AV × St)}
theorem chain_two (hs : ∀ xs st, sum 46 xs st = none) {n : Int} {b k : Nat} {name : List UInt8} {s s2 : Sty} {st : St} {b0 : Nat} (hb0 : b0 ≤ st.next) (hor : OrW (CS sum) n (.ptr b k) name b0 st s) (hor2 : OrW (CS sum) n (.ptr b k) s.fb b0 st s2) (hok : s.ok = false) (hnd : eqL s.name tDecimal = false) (hnn : eqL s2.name s.name = false) (hend : s2.ok = true ∨ eqL s2.name tDecimal = true) :
    CallW (CS sum) 46 [.ptr b k, .str name, .int .i64 n] st fun v st' => (∃ (d e : D) (f lo hi : Nat), st.next ≤ lo ∧ hi ≤ st'.next ∧ IsSty (CS sum) n (Own b0 lo hi) st' e s2 ∧ IsRow st' v f 75 16 [d.cells, e.cells]) ∧ Ext st st' := by
  obtain ⟨nb, hb1, hb2, hb3⟩ := by75
  have hm0 := push_self st (.map [])
  have hxt0 : Ext st (st.push (.map [])) := (Ext.refl st).push _
  have hlt0 : st.next < (st.push (.map [])).next := by rw [push_next]; omega
  have hlb : st.next ≤ (st.push (.map [])).next := Nat.le_of_lt hlt0
  cases hok2 : s2.ok with
  | true =>
    refine CallW.enter (hs _ _) Tryz.func46 body46 c46_of rfl ?_
    rw [nt46]
    unfold c46
    refine WK.seq ?_
    refine WK.region ?_
    refine WR.op rfl rfl rfl rfl ?_
    refine WR.nil ?_
    refine after.seq ?_
    refine WK.seq ?_
    refine WK.region ?_
    refine WR.op rfl rfl rfl rfl ?_
    refine WR.op rfl rfl rfl rfl ?_
    refine WR.nil ?_
    refine after.seq ?_
    refine WK.seq ?_
    refine WK.region ?_
    refine WR.op rfl rfl rfl rfl ?_
    refine WR.op rfl rfl rfl rfl ?_
    refine WR.call (f := 55) («as» := [.ptr b k, .str name]) rfl (.inl rfl) rfl rfl rfl rfl ((hor _ (hxt0.same fun k hk => Nat.lt_of_lt_of_le hk hb0)).mono ?_)
    rintro v1 st1 ⟨⟨d, rfl, hsty⟩, k1⟩
    have hm1 : st1.heap.get st.next = some (.map []) := by rw [k1.heap _ hlt0]; exact hm0
    have hx1 : Ext st st1 := hxt0.trans k1
    have hnb := push_self st1 (boxO 75 (.agg [.str [], .str [], .int .i64 0, .nils, .nils, .str [], .str [], .str [], .str [], .bool false, .nils, .int .i64 0, .str [], .str [], .str [], .int .i64 0]))
    obtain ⟨st2, hst2⟩ : ∃ s, s = (st1.push (boxO 75 (.agg [.str [], .str [], .int .i64 0, .nils, .nils, .str [], .str [], .str [], .str [], .bool false, .nils, .int .i64 0, .str [], .str [], .str [], .int .i64 0]))).setObj st1.next (boxO 75 d.av) := ⟨_, rfl⟩
    have hd2 : st2.heap.get st1.next = some (boxO 75 d.av) := by rw [hst2, set_get, if_pos rfl]
    have hn2 : st2.next = st1.next + 1 := by rw [hst2, set_next, push_next]
    have hml : st.next < st1.next := Nat.lt_of_lt_of_le hlt0 k1.nx
    have hx12 : Ext st1 st2 := by rw [hst2]; exact ((Ext.refl st1).push _).set (Nat.le_refl _) _
    have hm2 : st2.heap.get st.next = some (.map []) := by rw [hx12.heap _ hml]; exact hm1
    obtain ⟨st3, hst3⟩ : ∃ s, s = st2.setObj st.next (.map [(.str d.name, .bool true)]) := ⟨_, rfl⟩
    have hx3 : Ext st st3 := by rw [hst3]; exact (hx1.trans hx12).set (Nat.le_refl _) _
    have hN1 : ∀ k, Own b0 (st.push (.map [])).next st1.next k → k < st1.next := fun k hk => hk.elim (fun h => by omega) (fun h => h.2)
    have hNm : ¬ Own b0 (st.push (.map [])).next st1.next st.next := fun hk => hk.elim (fun h => by omega) (fun h => by omega)
    have hS13 : Same (Own b0 (st.push (.map [])).next st1.next) st1 st3 := by rw [hst3]; exact (hx12.same hN1).trans (Same.set hNm _)
    have hn3 : st3.next = st2.next := by rw [hst3, set_next]
    have hd3 : st3.heap.get st1.next = some (boxO 75 d.av) := by rw [hst3, set_get, if_neg (by omega)]; exact hd2
    refine WR.op rfl rfl (r_alloc ze75 rfl) rfl ?_
    refine WR.op0 rfl rfl (r_st (v := .agg [.str [], .str [], .int .i64 0, .nils, .nils, .str [], .str [], .str [], .str [], .bool false, .nils, .int .i64 0, .str [], .str [], .str [], .int .i64 0]) (u := d.av) sz75 rfl rfl hnb rfl hsty.plain.ok) ?_
    rw [← hst2]
    refine WR.nil ?_
    refine after.seq ?_
    refine WK.block ?_
    refine WK.loop ?_
    refine WK.seq ?_
    refine WK.block ?_
    refine WK.seq ?_
    refine WK.seq ?_
    refine WK.region ?_
    refine WR.op rfl rfl rfl rfl ?_
    refine WR.op rfl rfl (r_fa fo75_0 rfl) rfl ?_
    refine WR.op rfl rfl (r_ld agg9 rfl hd2 rfl) rfl ?_
    refine WR.op rfl rfl (r_lk0 rfl rfl hm2) rfl ?_
    refine WR.nil ?_
    refine after.seq ?_
    refine WK.cond rfl (fun h => (by cases h)) (fun _ => ?_)
    refine WK.skip ?_
    refine after.seq ?_
    refine WK.seq ?_
    refine WK.region ?_
    refine WR.op rfl rfl rfl rfl ?_
    refine WR.op rfl rfl (r_fa fo75_0 rfl) rfl ?_
    refine WR.op rfl rfl (r_ld agg9 rfl hd2 rfl) rfl ?_
    refine WR.op0 rfl rfl (r_up0 rfl rfl rfl hm2) ?_
    rw [← hst3]
    refine WR.nil ?_
    refine after.seq ?_
    refine WK.seq ?_
    refine WK.region ?_
    refine WR.op rfl rfl rfl rfl ?_
    refine WR.op rfl rfl (r_ldA agg75 sz75 rfl hd3 (Nat.le_refl 16) rfl) rfl ?_
    refine WR.appA (st0 := st3) (v := d.av) un88 sz75 (by decide) (by decide) hb1 hb2 hb3 ze75 rfl rfl rfl rfl (by have := hsty.plain.ok; simp only [Bool.and_eq_true] at this; exact this.1) rfl rfl rfl (.inl ⟨rfl, rfl⟩ : IsRow st3 .nils 0 75 16 []) (Ext.refl st3) (.inl rfl) (by simp) ?_
    intro x2 st4 f2 hrow2 hext2 hf2 hh4 _ hn4 _ _
    have hd4 : st4.heap.get st1.next = some (boxO 75 d.av) := by rw [hh4 _ (by omega)]; exact hd3
    have hlt4 : st1.next < st4.next := by omega
    have hS14 : Same (Own b0 (st.push (.map [])).next st1.next) st1 st4 := hS13.trans (hext2.same fun k hk => by have := hN1 k hk; omega)
    refine WR.op rfl rfl rfl rfl ?_
    refine WR.nil ?_
    refine after.seq ?_
    refine WK.seq ?_
    refine WK.region ?_
    refine WR.op rfl rfl (r_ldA agg75 sz75 rfl hd4 (Nat.le_refl 16) rfl) rfl ?_
    refine WR.op rfl rfl rfl rfl ?_
    refine WR.call (f := 47) («as» := [d.av, .int .i64 n]) rfl (.inl rfl) rfl rfl rfl rfl ((hsty.tell _ hS14).mono ?_)
    rw [hok]
    rintro v5 st5 ⟨rfl, k5⟩
    have hd5 : st5.heap.get st1.next = some (boxO 75 d.av) := by rw [k5.heap _ hlt4]; exact hd4
    refine WR.op rfl rfl rfl rfl ?_
    refine WR.op rfl rfl rfl rfl ?_
    refine WR.op rfl rfl rfl rfl ?_
    refine WR.op rfl rfl rfl rfl ?_
    refine WR.op rfl rfl rfl rfl ?_
    refine WR.nil ?_
    refine after.seq ?_
    refine WK.seq ?_
    refine WK.region ?_
    refine WR.op rfl rfl rfl rfl ?_
    refine WR.op rfl rfl rfl rfl ?_
    refine WR.opG rfl rfl rfl (r_fa fo75_0 rfl) rfl ?_
    refine WR.opG rfl rfl rfl (r_ld agg9 rfl hd5 rfl) rfl ?_
    refine WR.opG rfl rfl rfl (r_seql rfl rfl (q := false) (by rw [hsty.name]; exact hnd)) rfl ?_
    refine WR.op rfl rfl rfl rfl ?_
    refine WR.nil ?_
    refine after.seq ?_
    refine WK.cond rfl (fun h => (by cases h)) (fun _ => ?_)
    refine WK.skip ?_
    refine after.block ?_
    refine after.seq ?_
    refine WK.seq ?_
    refine WK.seq ?_
    refine WK.region ?_
    refine WR.op rfl rfl (r_ldA agg75 sz75 rfl hd5 (Nat.le_refl 16) rfl) rfl ?_
    refine WR.nil ?_
    refine after.seq ?_
    refine WK.region ?_
    refine WR.op rfl rfl (r_alloc ze75 rfl) rfl ?_
    have hnb5 := push_self st5 (boxO 75 (.agg [.str [], .str [], .int .i64 0, .nils, .nils, .str [], .str [], .str [], .str [], .bool false, .nils, .int .i64 0, .str [], .str [], .str [], .int .i64 0]))
    refine WR.op0 rfl rfl (r_st (v := .agg [.str [], .str [], .int .i64 0, .nils, .nils, .str [], .str [], .str [], .str [], .bool false, .nils, .int .i64 0, .str [], .str [], .str [], .int .i64 0]) (u := d.av) sz75 rfl rfl hnb5 rfl hsty.plain.ok) ?_
    obtain ⟨st6, hst6⟩ : ∃ s, s = (st5.push (boxO 75 (.agg [.str [], .str [], .int .i64 0, .nils, .nils, .str [], .str [], .str [], .str [], .bool false, .nils, .int .i64 0, .str [], .str [], .str [], .int .i64 0]))).setObj st5.next (boxO 75 d.av) := ⟨_, rfl⟩
    rw [← hst6]
    have hd6 : st6.heap.get st5.next = some (boxO 75 d.av) := by rw [hst6, set_get, if_pos rfl]
    have hn6 : st6.next = st5.next + 1 := by rw [hst6, set_next, push_next]
    have hx56 : Ext st5 st6 := by rw [hst6]; exact ((Ext.refl st5).push _).set (Nat.le_refl _) _
    have hx46 : Ext st4 st6 := k5.trans hx56
    have hx06 : Ext st st6 := (hx3.trans hext2).trans hx46
    have hnx5 := k5.nx
    have hor3 := hor2 st6 (hx06.same fun k hk => Nat.lt_of_lt_of_le hk hb0)
    rw [← hsty.fb] at hor3
    refine WR.nil ?_
    refine after.seq ?_
    refine WK.region ?_
    refine WR.op rfl rfl rfl rfl ?_
    refine WR.op rfl rfl (r_fa fo75_12 rfl) rfl ?_
    refine WR.op rfl rfl (r_ld agg9 rfl hd6 rfl) rfl ?_
    refine WR.call (f := 55) («as» := [.ptr b k, .str d.fb]) rfl (.inl rfl) rfl rfl rfl rfl (hor3.mono ?_)
    rintro v7 st7 ⟨⟨e, rfl, hsty2⟩, k7⟩
    have hnx7 := k7.nx
    have hd7 : st7.heap.get st5.next = some (boxO 75 d.av) := by rw [k7.heap _ (by omega)]; exact hd6
    refine WR.op0 rfl rfl (r_st (v := d.av) (u := e.av) sz75 rfl rfl hd7 rfl hsty2.plain.ok) ?_
    obtain ⟨st8, hst8⟩ : ∃ s, s = st7.setObj st5.next (boxO 75 e.av) := ⟨_, rfl⟩
    rw [← hst8]
    have hn8 : st8.next = st7.next := by rw [hst8, set_next]
    have hd8 : st8.heap.get st5.next = some (boxO 75 e.av) := by rw [hst8, set_get, if_pos rfl]
    have hx48 : Ext st4 st8 := by rw [hst8]; exact (hx46.trans k7).set (by omega) _
    have hm3 : st3.heap.get st.next = some (.map [(.str d.name, .bool true)]) := by rw [hst3, set_get, if_pos rfl]
    have hm8 : st8.heap.get st.next = some (.map [(.str d.name, .bool true)]) := by rw [hx48.heap _ (by omega), hext2.heap _ (by omega)]; exact hm3
    have hne : eqL e.name d.name = false := by rw [hsty2.name, hsty.name]; exact hnn
    obtain ⟨st9, hst9⟩ : ∃ s, s = st8.setObj st.next (.map [(.str d.name, .bool true), (.str e.name, .bool true)]) := ⟨_, rfl⟩
    have hn9 : st9.next = st8.next := by rw [hst9, set_next]
    have hd9 : st9.heap.get st5.next = some (boxO 75 e.av) := by rw [hst9, set_get, if_neg (by omega)]; exact hd8
    have hrow9 : IsRow st9 x2 f2 75 16 [d.cells] := by
      rw [hst9]
      refine row_set (hrow2.ext hx48) fun B hB => ?_
      rw [hm8] at hB
      cases hB
    have hx9 : Ext st st9 := by rw [hst9]; exact ((hx3.trans hext2).trans hx48).set (Nat.le_refl _) _
    have hN2 : ∀ k, Own b0 st6.next st7.next k → k < st7.next := fun k hk => hk.elim (fun h => by omega) (fun h => h.2)
    have hS79 : Same (Own b0 st6.next st7.next) st7 st9 := by
      rw [hst9, hst8]
      exact (Same.set (fun hk => hk.elim (fun h => by omega) (fun h => by omega)) _).trans (Same.set (fun hk => hk.elim (fun h => by omega) (fun h => by omega)) _)
    have hf2lt : f2 < st4.next := by
      rcases hrow2 with ⟨_, h⟩ | ⟨m2, _, _, h, _⟩
      · cases h
      · exact h
    refine WR.nil ?_
    refine after.seq ?_
    refine WK.loop ?_
    refine WK.seq ?_
    refine WK.block ?_
    refine WK.seq ?_
    refine WK.seq ?_
    refine WK.region ?_
    refine WR.op rfl rfl rfl rfl ?_
    refine WR.op rfl rfl (r_fa fo75_0 rfl) rfl ?_
    refine WR.op rfl rfl (r_ld agg9 rfl hd8 rfl) rfl ?_
    refine WR.op rfl rfl (r_lk1 rfl rfl hm8 hne) rfl ?_
    refine WR.nil ?_
    refine after.seq ?_
    refine WK.cond rfl (fun h => (by cases h)) (fun _ => ?_)
    refine WK.skip ?_
    refine after.seq ?_
    refine WK.seq ?_
    refine WK.region ?_
    refine WR.op rfl rfl rfl rfl ?_
    refine WR.op rfl rfl (r_fa fo75_0 rfl) rfl ?_
    refine WR.op rfl rfl (r_ld agg9 rfl hd8 rfl) rfl ?_
    refine WR.op0 rfl rfl (r_up1 rfl rfl rfl hm8 hne) ?_
    rw [← hst9]
    refine WR.nil ?_
    refine after.seq ?_
    refine WK.seq ?_
    refine WK.region ?_
    refine WR.op rfl rfl rfl rfl ?_
    refine WR.op rfl rfl (r_ldA agg75 sz75 rfl hd9 (Nat.le_refl 16) rfl) rfl ?_
    refine WR.appA (st0 := st) (v := e.av) un88 sz75 (by decide) (by decide) hb1 hb2 hb3 ze75 rfl rfl rfl rfl (by have := hsty2.plain.ok; simp only [Bool.and_eq_true] at this; exact this.1) rfl rfl rfl hrow9 hx9 (.inr (by omega)) (by simp) ?_
    intro x3 st10 f3 hrow3 hext3 hf3 hh10 hg10 hn10 hnew hff
    have hS710 : Same (Own b0 st6.next st7.next) st7 st10 := by
      refine hS79.trans ⟨by omega, fun k hk => hh10 k (by have := hN2 k hk; omega), fun k hk => hg10 k (fun h => ?_) (by have := hN2 k hk; omega), fun c o g hc hg hN => ?_, fun c o g hc hg => ?_⟩
      · subst h
        exact hk.elim (fun h => by omega) (fun h => by omega)
      · rcases hnew c o g hc hg with h | h
        · exact h
        · subst h
          have := hN2 _ hN
          exact hN.elim (fun h => by omega) (fun h => hff.elim (fun h => by omega) (fun h => by omega))
      · rcases hnew c o g hc hg with h | h
        · exact .inl h
        · subst h
          rcases hrow3 with ⟨_, h⟩ | ⟨_, _, _, h, _⟩
          · simp at h
          · exact .inr h
    have hd10 : st10.heap.get st5.next = some (boxO 75 e.av) := by rw [hh10 _ (by omega)]; exact hd9
    refine WR.op rfl rfl rfl rfl ?_
    refine WR.nil ?_
    refine after.seq ?_
    refine WK.seq ?_
    refine WK.region ?_
    refine WR.op rfl rfl (r_ldA agg75 sz75 rfl hd10 (Nat.le_refl 16) rfl) rfl ?_
    refine WR.op rfl rfl rfl rfl ?_
    refine WR.call (f := 47) («as» := [e.av, .int .i64 n]) rfl (.inl rfl) rfl rfl rfl rfl ((hsty2.tell _ hS710).mono ?_)
    rw [hok2]
    rintro v11 st11 ⟨rfl, k11⟩
    have hd11 : st11.heap.get st5.next = some (boxO 75 e.av) := by rw [k11.heap _ (by omega)]; exact hd10
    refine WR.op rfl rfl rfl rfl ?_
    refine WR.op rfl rfl rfl rfl ?_
    refine WR.op rfl rfl rfl rfl ?_
    refine WR.op rfl rfl rfl rfl ?_
    refine WR.op rfl rfl rfl rfl ?_
    refine WR.nil ?_
    refine after.seq ?_
    refine WK.seq ?_
    refine WK.region ?_
    refine WR.op rfl rfl rfl rfl ?_
    refine WR.op rfl rfl rfl rfl ?_
    refine WR.off rfl rfl rfl rfl rfl ?_
    refine WR.off rfl rfl rfl rfl rfl ?_
    refine WR.off rfl rfl rfl rfl rfl ?_
    refine WR.op rfl rfl rfl rfl ?_
    refine WR.nil ?_
    refine after.seq ?_
    refine WK.cond rfl (fun _ => ?_) (fun h => (by cases h))
    refine WK.seq ?_
    refine WK.region ?_
    refine WR.op rfl rfl rfl rfl ?_
    refine WR.op rfl rfl rfl rfl ?_
    refine WR.nil ?_
    refine after.seq ?_
    refine WK.ret ?_
    refine after.block_ret ?_
    refine after.seq_ret ?_
    refine after.seq_ret ?_
    refine after.block_ret ?_
    exact ⟨ret_ne 0, ret_ne, [x3], (by rw [res46]; rfl), ⟨d, e, f3, _, _, (by omega : st.next ≤ st6.next), (by have := k11.nx; omega : st7.next ≤ st11.next), hsty2.same (hS710.trans (k11.same fun k hk => by have := hN2 k hk; omega)), hrow3.ext k11⟩, hext3.trans k11⟩
  | false =>
    have hnm2 : eqL s2.name tDecimal = true := hend.resolve_left (by rw [hok2]; decide)
    refine CallW.enter (hs _ _) Tryz.func46 body46 c46_of rfl ?_
    rw [nt46]
    unfold c46
    refine WK.seq ?_
    refine WK.region ?_
    refine WR.op rfl rfl rfl rfl ?_
    refine WR.nil ?_
    refine after.seq ?_
    refine WK.seq ?_
    refine WK.region ?_
    refine WR.op rfl rfl rfl rfl ?_
    refine WR.op rfl rfl rfl rfl ?_
    refine WR.nil ?_
    refine after.seq ?_
    refine WK.seq ?_
    refine WK.region ?_
    refine WR.op rfl rfl rfl rfl ?_
    refine WR.op rfl rfl rfl rfl ?_
    refine WR.call (f := 55) («as» := [.ptr b k, .str name]) rfl (.inl rfl) rfl rfl rfl rfl ((hor _ (hxt0.same fun k hk => Nat.lt_of_lt_of_le hk hb0)).mono ?_)
    rintro v1 st1 ⟨⟨d, rfl, hsty⟩, k1⟩
    have hm1 : st1.heap.get st.next = some (.map []) := by rw [k1.heap _ hlt0]; exact hm0
    have hx1 : Ext st st1 := hxt0.trans k1
    have hnb := push_self st1 (boxO 75 (.agg [.str [], .str [], .int .i64 0, .nils, .nils, .str [], .str [], .str [], .str [], .bool false, .nils, .int .i64 0, .str [], .str [], .str [], .int .i64 0]))
    obtain ⟨st2, hst2⟩ : ∃ s, s = (st1.push (boxO 75 (.agg [.str [], .str [], .int .i64 0, .nils, .nils, .str [], .str [], .str [], .str [], .bool false, .nils, .int .i64 0, .str [], .str [], .str [], .int .i64 0]))).setObj st1.next (boxO 75 d.av) := ⟨_, rfl⟩
    have hd2 : st2.heap.get st1.next = some (boxO 75 d.av) := by rw [hst2, set_get, if_pos rfl]
    have hn2 : st2.next = st1.next + 1 := by rw [hst2, set_next, push_next]
    have hml : st.next < st1.next := Nat.lt_of_lt_of_le hlt0 k1.nx
    have hx12 : Ext st1 st2 := by rw [hst2]; exact ((Ext.refl st1).push _).set (Nat.le_refl _) _
    have hm2 : st2.heap.get st.next = some (.map []) := by rw [hx12.heap _ hml]; exact hm1
    obtain ⟨st3, hst3⟩ : ∃ s, s = st2.setObj st.next (.map [(.str d.name, .bool true)]) := ⟨_, rfl⟩
    have hx3 : Ext st st3 := by rw [hst3]; exact (hx1.trans hx12).set (Nat.le_refl _) _
    have hN1 : ∀ k, Own b0 (st.push (.map [])).next st1.next k → k < st1.next := fun k hk => hk.elim (fun h => by omega) (fun h => h.2)
    have hNm : ¬ Own b0 (st.push (.map [])).next st1.next st.next := fun hk => hk.elim (fun h => by omega) (fun h => by omega)
    have hS13 : Same (Own b0 (st.push (.map [])).next st1.next) st1 st3 := by rw [hst3]; exact (hx12.same hN1).trans (Same.set hNm _)
    have hn3 : st3.next = st2.next := by rw [hst3, set_next]
    have hd3 : st3.heap.get st1.next = some (boxO 75 d.av) := by rw [hst3, set_get, if_neg (by omega)]; exact hd2
    refine WR.op rfl rfl (r_alloc ze75 rfl) rfl ?_
    refine WR.op0 rfl rfl (r_st (v := .agg [.str [], .str [], .int .i64 0, .nils, .nils, .str [], .str [], .str [], .str [], .bool false, .nils, .int .i64 0, .str [], .str [], .str [], .int .i64 0]) (u := d.av) sz75 rfl rfl hnb rfl hsty.plain.ok) ?_
    rw [← hst2]
    refine WR.nil ?_
    refine after.seq ?_
    refine WK.block ?_
    refine WK.loop ?_
    refine WK.seq ?_
    refine WK.block ?_
    refine WK.seq ?_
    refine WK.seq ?_
    refine WK.region ?_
    refine WR.op rfl rfl rfl rfl ?_
    refine WR.op rfl rfl (r_fa fo75_0 rfl) rfl ?_
    refine WR.op rfl rfl (r_ld agg9 rfl hd2 rfl) rfl ?_
    refine WR.op rfl rfl (r_lk0 rfl rfl hm2) rfl ?_
    refine WR.nil ?_
    refine after.seq ?_
    refine WK.cond rfl (fun h => (by cases h)) (fun _ => ?_)
    refine WK.skip ?_
    refine after.seq ?_
    refine WK.seq ?_
    refine WK.region ?_
    refine WR.op rfl rfl rfl rfl ?_
    refine WR.op rfl rfl (r_fa fo75_0 rfl) rfl ?_
    refine WR.op rfl rfl (r_ld agg9 rfl hd2 rfl) rfl ?_
    refine WR.op0 rfl rfl (r_up0 rfl rfl rfl hm2) ?_
    rw [← hst3]
    refine WR.nil ?_
    refine after.seq ?_
    refine WK.seq ?_
    refine WK.region ?_
    refine WR.op rfl rfl rfl rfl ?_
    refine WR.op rfl rfl (r_ldA agg75 sz75 rfl hd3 (Nat.le_refl 16) rfl) rfl ?_
    refine WR.appA (st0 := st3) (v := d.av) un88 sz75 (by decide) (by decide) hb1 hb2 hb3 ze75 rfl rfl rfl rfl (by have := hsty.plain.ok; simp only [Bool.and_eq_true] at this; exact this.1) rfl rfl rfl (.inl ⟨rfl, rfl⟩ : IsRow st3 .nils 0 75 16 []) (Ext.refl st3) (.inl rfl) (by simp) ?_
    intro x2 st4 f2 hrow2 hext2 hf2 hh4 _ hn4 _ _
    have hd4 : st4.heap.get st1.next = some (boxO 75 d.av) := by rw [hh4 _ (by omega)]; exact hd3
    have hlt4 : st1.next < st4.next := by omega
    have hS14 : Same (Own b0 (st.push (.map [])).next st1.next) st1 st4 := hS13.trans (hext2.same fun k hk => by have := hN1 k hk; omega)
    refine WR.op rfl rfl rfl rfl ?_
    refine WR.nil ?_
    refine after.seq ?_
    refine WK.seq ?_
    refine WK.region ?_
    refine WR.op rfl rfl (r_ldA agg75 sz75 rfl hd4 (Nat.le_refl 16) rfl) rfl ?_
    refine WR.op rfl rfl rfl rfl ?_
    refine WR.call (f := 47) («as» := [d.av, .int .i64 n]) rfl (.inl rfl) rfl rfl rfl rfl ((hsty.tell _ hS14).mono ?_)
    rw [hok]
    rintro v5 st5 ⟨rfl, k5⟩
    have hd5 : st5.heap.get st1.next = some (boxO 75 d.av) := by rw [k5.heap _ hlt4]; exact hd4
    refine WR.op rfl rfl rfl rfl ?_
    refine WR.op rfl rfl rfl rfl ?_
    refine WR.op rfl rfl rfl rfl ?_
    refine WR.op rfl rfl rfl rfl ?_
    refine WR.op rfl rfl rfl rfl ?_
    refine WR.nil ?_
    refine after.seq ?_
    refine WK.seq ?_
    refine WK.region ?_
    refine WR.op rfl rfl rfl rfl ?_
    refine WR.op rfl rfl rfl rfl ?_
    refine WR.opG rfl rfl rfl (r_fa fo75_0 rfl) rfl ?_
    refine WR.opG rfl rfl rfl (r_ld agg9 rfl hd5 rfl) rfl ?_
    refine WR.opG rfl rfl rfl (r_seql rfl rfl (q := false) (by rw [hsty.name]; exact hnd)) rfl ?_
    refine WR.op rfl rfl rfl rfl ?_
    refine WR.nil ?_
    refine after.seq ?_
    refine WK.cond rfl (fun h => (by cases h)) (fun _ => ?_)
    refine WK.skip ?_
    refine after.block ?_
    refine after.seq ?_
    refine WK.seq ?_
    refine WK.seq ?_
    refine WK.region ?_
    refine WR.op rfl rfl (r_ldA agg75 sz75 rfl hd5 (Nat.le_refl 16) rfl) rfl ?_
    refine WR.nil ?_
    refine after.seq ?_
    refine WK.region ?_
    refine WR.op rfl rfl (r_alloc ze75 rfl) rfl ?_
    have hnb5 := push_self st5 (boxO 75 (.agg [.str [], .str [], .int .i64 0, .nils, .nils, .str [], .str [], .str [], .str [], .bool false, .nils, .int .i64 0, .str [], .str [], .str [], .int .i64 0]))
    refine WR.op0 rfl rfl (r_st (v := .agg [.str [], .str [], .int .i64 0, .nils, .nils, .str [], .str [], .str [], .str [], .bool false, .nils, .int .i64 0, .str [], .str [], .str [], .int .i64 0]) (u := d.av) sz75 rfl rfl hnb5 rfl hsty.plain.ok) ?_
    obtain ⟨st6, hst6⟩ : ∃ s, s = (st5.push (boxO 75 (.agg [.str [], .str [], .int .i64 0, .nils, .nils, .str [], .str [], .str [], .str [], .bool false, .nils, .int .i64 0, .str [], .str [], .str [], .int .i64 0]))).setObj st5.next (boxO 75 d.av) := ⟨_, rfl⟩
    rw [← hst6]
    have hd6 : st6.heap.get st5.next = some (boxO 75 d.av) := by rw [hst6, set_get, if_pos rfl]
    have hn6 : st6.next = st5.next + 1 := by rw [hst6, set_next, push_next]
    have hx56 : Ext st5 st6 := by rw [hst6]; exact ((Ext.refl st5).push _).set (Nat.le_refl _) _
    have hx46 : Ext st4 st6 := k5.trans hx56
    have hx06 : Ext st st6 := (hx3.trans hext2).trans hx46
    have hnx5 := k5.nx
    have hor3 := hor2 st6 (hx06.same fun k hk => Nat.lt_of_lt_of_le hk hb0)
    rw [← hsty.fb] at hor3
    refine WR.nil ?_
    refine after.seq ?_
    refine WK.region ?_
    refine WR.op rfl rfl rfl rfl ?_
    refine WR.op rfl rfl (r_fa fo75_12 rfl) rfl ?_
    refine WR.op rfl rfl (r_ld agg9 rfl hd6 rfl) rfl ?_
    refine WR.call (f := 55) («as» := [.ptr b k, .str d.fb]) rfl (.inl rfl) rfl rfl rfl rfl (hor3.mono ?_)
    rintro v7 st7 ⟨⟨e, rfl, hsty2⟩, k7⟩
    have hnx7 := k7.nx
    have hd7 : st7.heap.get st5.next = some (boxO 75 d.av) := by rw [k7.heap _ (by omega)]; exact hd6
    refine WR.op0 rfl rfl (r_st (v := d.av) (u := e.av) sz75 rfl rfl hd7 rfl hsty2.plain.ok) ?_
    obtain ⟨st8, hst8⟩ : ∃ s, s = st7.setObj st5.next (boxO 75 e.av) := ⟨_, rfl⟩
    rw [← hst8]
    have hn8 : st8.next = st7.next := by rw [hst8, set_next]
    have hd8 : st8.heap.get st5.next = some (boxO 75 e.av) := by rw [hst8, set_get, if_pos rfl]
    have hx48 : Ext st4 st8 := by rw [hst8]; exact (hx46.trans k7).set (by omega) _
    have hm3 : st3.heap.get st.next = some (.map [(.str d.name, .bool true)]) := by rw [hst3, set_get, if_pos rfl]
    have hm8 : st8.heap.get st.next = some (.map [(.str d.name, .bool true)]) := by rw [hx48.heap _ (by omega), hext2.heap _ (by omega)]; exact hm3
    have hne : eqL e.name d.name = false := by rw [hsty2.name, hsty.name]; exact hnn
    obtain ⟨st9, hst9⟩ : ∃ s, s = st8.setObj st.next (.map [(.str d.name, .bool true), (.str e.name, .bool true)]) := ⟨_, rfl⟩
    have hn9 : st9.next = st8.next := by rw [hst9, set_next]
    have hd9 : st9.heap.get st5.next = some (boxO 75 e.av) := by rw [hst9, set_get, if_neg (by omega)]; exact hd8
    have hrow9 : IsRow st9 x2 f2 75 16 [d.cells] := by
      rw [hst9]
      refine row_set (hrow2.ext hx48) fun B hB => ?_
      rw [hm8] at hB
      cases hB
    have hx9 : Ext st st9 := by rw [hst9]; exact ((hx3.trans hext2).trans hx48).set (Nat.le_refl _) _
    have hN2 : ∀ k, Own b0 st6.next st7.next k → k < st7.next := fun k hk => hk.elim (fun h => by omega) (fun h => h.2)
    have hS79 : Same (Own b0 st6.next st7.next) st7 st9 := by
      rw [hst9, hst8]
      exact (Same.set (fun hk => hk.elim (fun h => by omega) (fun h => by omega)) _).trans (Same.set (fun hk => hk.elim (fun h => by omega) (fun h => by omega)) _)
    have hf2lt : f2 < st4.next := by
      rcases hrow2 with ⟨_, h⟩ | ⟨m2, _, _, h, _⟩
      · cases h
      · exact h
    refine WR.nil ?_
    refine after.seq ?_
    refine WK.loop ?_
    refine WK.seq ?_
    refine WK.block ?_
    refine WK.seq ?_
    refine WK.seq ?_
    refine WK.region ?_
    refine WR.op rfl rfl rfl rfl ?_
    refine WR.op rfl rfl (r_fa fo75_0 rfl) rfl ?_
    refine WR.op rfl rfl (r_ld agg9 rfl hd8 rfl) rfl ?_
    refine WR.op rfl rfl (r_lk1 rfl rfl hm8 hne) rfl ?_
    refine WR.nil ?_
    refine after.seq ?_
    refine WK.cond rfl (fun h => (by cases h)) (fun _ => ?_)
    refine WK.skip ?_
    refine after.seq ?_
    refine WK.seq ?_
    refine WK.region ?_
    refine WR.op rfl rfl rfl rfl ?_
    refine WR.op rfl rfl (r_fa fo75_0 rfl) rfl ?_
    refine WR.op rfl rfl (r_ld agg9 rfl hd8 rfl) rfl ?_
    refine WR.op0 rfl rfl (r_up1 rfl rfl rfl hm8 hne) ?_
    rw [← hst9]
    refine WR.nil ?_
    refine after.seq ?_
    refine WK.seq ?_
    refine WK.region ?_
    refine WR.op rfl rfl rfl rfl ?_
    refine WR.op rfl rfl (r_ldA agg75 sz75 rfl hd9 (Nat.le_refl 16) rfl) rfl ?_
    refine WR.appA (st0 := st) (v := e.av) un88 sz75 (by decide) (by decide) hb1 hb2 hb3 ze75 rfl rfl rfl rfl (by have := hsty2.plain.ok; simp only [Bool.and_eq_true] at this; exact this.1) rfl rfl rfl hrow9 hx9 (.inr (by omega)) (by simp) ?_
    intro x3 st10 f3 hrow3 hext3 hf3 hh10 hg10 hn10 hnew hff
    have hS710 : Same (Own b0 st6.next st7.next) st7 st10 := by
      refine hS79.trans ⟨by omega, fun k hk => hh10 k (by have := hN2 k hk; omega), fun k hk => hg10 k (fun h => ?_) (by have := hN2 k hk; omega), fun c o g hc hg hN => ?_, fun c o g hc hg => ?_⟩
      · subst h
        exact hk.elim (fun h => by omega) (fun h => by omega)
      · rcases hnew c o g hc hg with h | h
        · exact h
        · subst h
          have := hN2 _ hN
          exact hN.elim (fun h => by omega) (fun h => hff.elim (fun h => by omega) (fun h => by omega))
      · rcases hnew c o g hc hg with h | h
        · exact .inl h
        · subst h
          rcases hrow3 with ⟨_, h⟩ | ⟨_, _, _, h, _⟩
          · simp at h
          · exact .inr h
    have hd10 : st10.heap.get st5.next = some (boxO 75 e.av) := by rw [hh10 _ (by omega)]; exact hd9
    refine WR.op rfl rfl rfl rfl ?_
    refine WR.nil ?_
    refine after.seq ?_
    refine WK.seq ?_
    refine WK.region ?_
    refine WR.op rfl rfl (r_ldA agg75 sz75 rfl hd10 (Nat.le_refl 16) rfl) rfl ?_
    refine WR.op rfl rfl rfl rfl ?_
    refine WR.call (f := 47) («as» := [e.av, .int .i64 n]) rfl (.inl rfl) rfl rfl rfl rfl ((hsty2.tell _ hS710).mono ?_)
    rw [hok2]
    rintro v11 st11 ⟨rfl, k11⟩
    have hd11 : st11.heap.get st5.next = some (boxO 75 e.av) := by rw [k11.heap _ (by omega)]; exact hd10
    refine WR.op rfl rfl rfl rfl ?_
    refine WR.op rfl rfl rfl rfl ?_
    refine WR.op rfl rfl rfl rfl ?_
    refine WR.op rfl rfl rfl rfl ?_
    refine WR.op rfl rfl rfl rfl ?_
    refine WR.nil ?_
    refine after.seq ?_
    refine WK.seq ?_
    refine WK.region ?_
    refine WR.op rfl rfl rfl rfl ?_
    refine WR.op rfl rfl rfl rfl ?_
    refine WR.opG rfl rfl rfl (r_fa fo75_0 rfl) rfl ?_
    refine WR.opG rfl rfl rfl (r_ld agg9 rfl hd11 rfl) rfl ?_
    refine WR.opG rfl rfl rfl (r_seql rfl rfl (q := true) (by rw [hsty2.name]; exact hnm2)) rfl ?_
    refine WR.op rfl rfl rfl rfl ?_
    refine WR.nil ?_
    refine after.seq ?_
    refine WK.cond rfl (fun _ => ?_) (fun h => (by cases h))
    refine WK.seq ?_
    refine WK.region ?_
    refine WR.op rfl rfl rfl rfl ?_
    refine WR.op rfl rfl rfl rfl ?_
    refine WR.nil ?_
    refine after.seq ?_
    refine WK.ret ?_
    refine after.block_ret ?_
    refine after.seq_ret ?_
    refine after.seq_ret ?_
    refine after.block_ret ?_
    exact ⟨ret_ne 0, ret_ne, [x3], (by rw [res46]; rfl), ⟨d, e, f3, _, _, (by omega : st.next ≤ st6.next), (by have := k11.nx; omega : st7.next ≤ st11.next), hsty2.same (hS710.trans (k11.same fun k hk => by have := hN2 k hk; omega)), hrow3.ext k11⟩, hext3.trans k11⟩
end Go.Proofs.Tz

namespace Go.Proofs.Tz
open Go Go.AE Go.RowKit Go.Proofs
set_option maxRecDepth 100000
variable {sum : FuncId → List AV → St → Option (AV × St)}
theorem mem_need {T S : St} {i bi : Nat} : ∀ {h : Hist}, T ∈ need i bi h S → T = S ∨ ∃ p ∈ h, T = p.2.2
  | [], h => by
    simp only [need, List.mem_singleton] at h
    exact .inl h
  | (e, be, S') :: r, h => by
    simp only [need, List.mem_append] at h
    rcases h with h | h
    · cases hq : anyIn bi ((e, be, S') :: r) with
      | true => rw [hq] at h; cases h
      | false => rw [hq] at h; exact .inl (List.mem_singleton.1 h)
    · cases hq : be.testBit i with
      | true => rw [hq] at h; cases h
      | false =>
        rw [hq, cond_false] at h
        rcases mem_need h with h | ⟨p, h1, h2⟩
        · exact .inr ⟨_, List.mem_cons_self, h⟩
        · exact .inr ⟨p, List.mem_cons_of_mem _ h1, h2⟩
theorem sub_int {a b : Int} (h1 : -4611686018427387904 ≤ a - b) (h2 : a - b ≤ 4611686018427387904) : intBin .sub .i64 a b = some (.int .i64 (a - b)) := by
  have : wrapF .i64 (Int.sub a b) = a - b := by
    rw [wrapF_eq]
    show IntKind.wrap .i64 (a - b) = _
    rw [IntWalk.i64_in _ (by omega)]
  simp only [intBin, this]
theorem un72 : und Tryz.prog 72 = some (.array 2 9) := by kernel_rfl
theorem agg72 : isAggT Tryz.prog 72 = some true := by kernel_rfl
theorem sz72 : sizeT Tryz.prog 72 = some 2 := by kernel_rfl
/-- What Text comes to. -/
noncomputable def aroundN (d : D) (n : Int) : List UInt8 × List UInt8 := bif usesB d.sys n then (d.neg0, d.neg1) else ([], [])
noncomputable def longN (s : Sty) (n : Int) : Nat := runes (s.txt.length + 1) s.txt + runes ((aroundN s.base n).1.length + 1) (aroundN s.base n).1 + runes ((aroundN s.base n).2.length + 1) (aroundN s.base n).2
noncomputable def textN (s : Sty) (p : List UInt8) (n : Int) : List UInt8 := (((aroundN s.base n).1 ++ p) ++ s.txt) ++ (aroundN s.base n).2
/-- What chain's answer is for Text: its last style. -/
def Last (C : Ctx) (n : Int) (s : Sty) (v : AV) (st2 : St) : Prop := ∃ (L : List (List AV)) (e : D) (f : Nat) (N : Nat → Prop), (∀ k, N k → k < st2.next) ∧ L.length ≤ 1000 ∧ IsSty C n N st2 e s ∧ IsRow st2 v f 75 16 (L ++ [e.cells])
/-- (*fleuron/registry.Registry).Text -/
def c23 : SC := (.seq (.region [⟨.assign (.const (.string ⟨#[]⟩)), some 6, none⟩])
  (.seq (.region [⟨.move (.tmp 2), some 13, none⟩, ⟨.call ⟨.value (.func 44), #[(.tmp 13)], #[3]⟩, some 14, none⟩, ⟨.assign (.tmp 14), some 2, none⟩])
  (.seq (.region [⟨.move (.tmp 0), some 15, none⟩, ⟨.call ⟨.value (.func 45), #[(.tmp 15)], #[36]⟩, some 16, none⟩, ⟨.move (.tmp 1), some 17, none⟩, ⟨.move (.tmp 2), some 18, none⟩, ⟨.call ⟨.value (.func 46), #[(.tmp 16), (.tmp 17), (.tmp 18)], #[36, 9, 3]⟩, some 19, none⟩, ⟨.assign (.tmp 19), some 7, none⟩])
  (.seq (.region [⟨.move (.tmp 7), some 20, none⟩, ⟨.move (.tmp 7), some 21, none⟩, ⟨.call ⟨.builtin .len, #[(.tmp 21)], #[88]⟩, some 22, none⟩, ⟨.binOp .sub 3 (.tmp 22) (.const (.int .i64 1)) 3, some 23, none⟩, ⟨.indexAddr 88 (.tmp 20) (.tmp 23), some 24, none⟩, ⟨.load 75 (.tmp 24), some 25, none⟩, ⟨.alloc 75, some 8, none⟩, ⟨.store 75 (.tmp 8) (.tmp 25), none, none⟩])
  (.seq (.region [⟨.load 75 (.tmp 8), some 27, none⟩, ⟨.move (.tmp 2), some 28, none⟩, ⟨.call ⟨.value (.func 47), #[(.tmp 27), (.tmp 28)], #[75, 3]⟩, some 29, none⟩, ⟨.move (.tmp 29), some 26, none⟩, ⟨.extract (.tmp 26) 0, some 30, none⟩, ⟨.extract (.tmp 26) 1, some 31, none⟩, ⟨.assign (.tmp 30), some 9, none⟩, ⟨.assign (.tmp 31), some 10, none⟩])
  (.seq (.region [⟨.alloc 72, some 11, none⟩])
  (.seq (.seq (.region [⟨.load 75 (.tmp 8), some 32, none⟩, ⟨.move (.tmp 2), some 33, none⟩, ⟨.call ⟨.value (.func 48), #[(.tmp 32), (.tmp 33)], #[75, 3]⟩, some 34, none⟩])
  (.cond (.tmp 34) (.region [⟨.fieldAddr 75 (.tmp 8) 5, some 35, none⟩, ⟨.load 72 (.tmp 35), some 36, none⟩, ⟨.store 72 (.tmp 11) (.tmp 36), none, none⟩]) .skip))
  (.seq (.draw [⟨.move (.tmp 9), some 37, none⟩, ⟨.call ⟨.value (.func 49), #[(.tmp 37)], #[9]⟩, some 38, none⟩, ⟨.indexAddr 72 (.tmp 11) (.const (.int .i64 0)), some 39, none⟩, ⟨.load 9 (.tmp 39), some 40, none⟩, ⟨.call ⟨.value (.func 49), #[(.tmp 40)], #[9]⟩, some 41, none⟩, ⟨.binOp .add 3 (.tmp 38) (.tmp 41) 3, some 42, none⟩, ⟨.indexAddr 72 (.tmp 11) (.const (.int .i64 1)), some 43, none⟩, ⟨.load 9 (.tmp 43), some 44, none⟩, ⟨.call ⟨.value (.func 49), #[(.tmp 44)], #[9]⟩, some 45, none⟩, ⟨.binOp .add 3 (.tmp 42) (.tmp 45) 3, some 46, none⟩, ⟨.assign (.tmp 46), some 12, none⟩] [0, 1, 0, 4, 15, 31, 0, 64, 223, 511, 1023] true)
  (.seq (.draw [⟨.indexAddr 72 (.tmp 11) (.const (.int .i64 0)), some 47, none⟩, ⟨.load 9 (.tmp 47), some 48, none⟩, ⟨.fieldAddr 75 (.tmp 8) 11, some 49, none⟩, ⟨.load 9 (.tmp 49), some 50, none⟩, ⟨.fieldAddr 75 (.tmp 8) 10, some 51, none⟩, ⟨.load 3 (.tmp 51), some 52, none⟩, ⟨.move (.tmp 12), some 53, none⟩, ⟨.binOp .sub 3 (.tmp 52) (.tmp 53) 3, some 54, none⟩, ⟨.call ⟨.builtin .max, #[(.tmp 54), (.const (.int .i64 0))], #[3, 3]⟩, some 55, none⟩, ⟨.call ⟨.value (.func 50), #[(.tmp 50), (.tmp 55)], #[9, 3]⟩, some 56, none⟩, ⟨.binOp .add 9 (.tmp 48) (.tmp 56) 9, some 57, none⟩, ⟨.move (.tmp 9), some 58, none⟩, ⟨.binOp .add 9 (.tmp 57) (.tmp 58) 9, some 59, none⟩, ⟨.indexAddr 72 (.tmp 11) (.const (.int .i64 1)), some 60, none⟩, ⟨.load 9 (.tmp 60), some 61, none⟩, ⟨.binOp .add 9 (.tmp 59) (.tmp 61) 9, some 62, none⟩, ⟨.assign (.tmp 62), some 6, none⟩] [0, 1, 0, 4, 0, 16, 0, 112, 240, 508, 1023, 0, 4095, 0, 8192, 32767, 65535] true)
  .ret)))))))))
theorem c23_of : SC.of Tryz.f23.body.get! = c23 := by kernel_rfl
theorem body23 : Tryz.f23.body = some (Tryz.f23.body.get!) := by kernel_rfl
theorem nt23 : Tryz.f23.ntmps = 63 := by kernel_rfl
theorem res23 : Tryz.f23.results.toList = [.tmp 6] := by kernel_rfl
theorem text_ok (hs : ∀ f ∈ [23, 44, 45, 48, 49], ∀ xs st, sum f xs st = none) {n : Int} {b k : Nat} {nm p : List UInt8} {s : Sty} {st : St}
    (hch : ∀ st', Ext st st' → CallW (CS sum) 46 [.ptr b k, .str nm, .int .i64 (heldN n)] st' fun v st2 => Last (CS sum) (heldN n) s v st2 ∧ Ext st' st2)
    (hl1 : s.txt.length ≤ 1000000) (hl2 : s.base.neg0.length ≤ 1000000) (hl3 : s.base.neg1.length ≤ 1000000) (hp1 : 0 ≤ s.base.pad) (hp2 : s.base.pad ≤ 1000000) (hlp : p.length ≤ 1000000)
    (hrep : ∀ st', CallW (CS sum) 50 [.str s.base.padSign, .int .i64 (max (s.base.pad - (longN s (heldN n) : Int)) 0)] st' fun v st2 => v = .str p ∧ Ext st' st2) :
    CallW (CS sum) 23 [.ptr b k, .str nm, .int .i64 n] st fun v st' => v = .str (textN s p (heldN n)) ∧ Ext st st' := by
  have hr1 := runes_le (s.txt.length + 1) s.txt
  have hr2 := runes_le (s.base.neg0.length + 1) s.base.neg0
  have hr3 := runes_le (s.base.neg1.length + 1) s.base.neg1
  cases hu : usesB s.base.sys (heldN n) with
  | true =>
    refine CallW.enter (hs 23 (by simp) _ _) Tryz.func23 body23 c23_of rfl ?_
    rw [nt23]
    unfold c23
    refine WK.seq ?_
    refine WK.region ?_
    refine WR.op rfl rfl rfl rfl ?_
    refine WR.nil ?_
    refine after.seq ?_
    refine WK.seq ?_
    refine WK.region ?_
    refine WR.op rfl rfl rfl rfl ?_
    refine WR.call (f := 44) («as» := [.int .i64 n]) rfl (.inl rfl) rfl rfl rfl rfl ((held_ok (hs 44 (by simp)) n _).mono ?_)
    rintro v1 st1 ⟨rfl, hst1⟩
    rw [hst1]
    clear hst1 st1
    refine WR.op rfl rfl rfl rfl ?_
    refine WR.nil ?_
    refine after.seq ?_
    refine WK.seq ?_
    refine WK.region ?_
    refine WR.op rfl rfl rfl rfl ?_
    refine WR.call (f := 45) («as» := [.ptr b k]) rfl (.inl rfl) rfl rfl rfl rfl ((some_ok (hs 45 (by simp)) b k _).mono ?_)
    rintro v2 st2 ⟨rfl, hst2⟩
    rw [hst2]
    clear hst2 st2
    refine WR.op rfl rfl rfl rfl ?_
    refine WR.op rfl rfl rfl rfl ?_
    refine WR.call (f := 46) («as» := [.ptr b k, .str nm, .int .i64 (heldN n)]) rfl (.inl rfl) rfl rfl rfl rfl ((hch _ (Ext.refl _)).mono ?_)
    rintro v3 st3 ⟨⟨L, e, f, N, hN, hL, hsty, hrow⟩, k3⟩
    have hq0 : e.neg0 = s.base.neg0 := by rw [hsty.base]
    have hq1 : e.neg1 = s.base.neg1 := by rw [hsty.base]
    have hq2 : e.padSign = s.base.padSign := by rw [hsty.base]
    have hq3 : e.pad = s.base.pad := by rw [hsty.base]
    have hq4 : e.sys = s.base.sys := by rw [hsty.base]
    have he0 := runes_le (e.neg0.length + 1) e.neg0
    have he1 := runes_le (e.neg1.length + 1) e.neg1
    have hle0 : e.neg0.length ≤ 1000000 := by rw [hq0]; exact hl2
    have hle1 : e.neg1.length ≤ 1000000 := by rw [hq1]; exact hl3
    have hr0 := runes_le (([] : List UInt8).length + 1) []
    have hz0 : ([] : List UInt8).length = 0 := rfl
    have hpe1 : 0 ≤ e.pad := by rw [hq3]; exact hp1
    have hpe2 : e.pad ≤ 1000000 := by rw [hq3]; exact hp2
    have hlen : (L ++ [e.cells]).length = L.length + 1 := by simp
    obtain ⟨mm, off, hia, hla⟩ := hrow.els.at (n := (L ++ [e.cells]).length - 1) un88 sz75 (by omega)
    have hget : (L ++ [e.cells])[(L ++ [e.cells]).length - 1]? = some e.cells := by rw [hlen]; simp
    refine WR.op rfl rfl rfl rfl ?_
    refine WR.nil ?_
    refine after.seq ?_
    refine WK.seq ?_
    refine WK.region ?_
    refine WR.op rfl rfl rfl rfl ?_
    refine WR.op rfl rfl rfl rfl ?_
    refine WR.op rfl rfl (r_lenE ⟨_, un88⟩ rfl hrow.els) rfl ?_
    refine WR.op rfl rfl (r_arith ⟨by decide, by decide⟩ rfl rfl (sub_nat (b := 1) (by omega) (by omega))) rfl ?_
    refine WR.op rfl rfl (hia rfl rfl) rfl ?_
    refine WR.op rfl rfl ((hla e.cells hget rfl _ _ _ rfl).2 agg75 sz75 (by decide)) rfl ?_
    refine WR.op rfl rfl (r_alloc ze75 rfl) rfl ?_
    have hnb := push_self st3 (boxO 75 (.agg [.str [], .str [], .int .i64 0, .nils, .nils, .str [], .str [], .str [], .str [], .bool false, .nils, .int .i64 0, .str [], .str [], .str [], .int .i64 0]))
    obtain ⟨st4, hst4⟩ : ∃ s, s = (st3.push (boxO 75 (.agg [.str [], .str [], .int .i64 0, .nils, .nils, .str [], .str [], .str [], .str [], .bool false, .nils, .int .i64 0, .str [], .str [], .str [], .int .i64 0]))).setObj st3.next (boxO 75 e.av) := ⟨_, rfl⟩
    have hd4 : st4.heap.get st3.next = some (boxO 75 e.av) := by rw [hst4, set_get, if_pos rfl]
    have hn4 : st4.next = st3.next + 1 := by rw [hst4, set_next, push_next]
    have hx4 : Ext st3 st4 := by rw [hst4]; exact ((Ext.refl st3).push _).set (Nat.le_refl _) _
    refine WR.op0 rfl rfl (r_st (v := (.agg [.str [], .str [], .int .i64 0, .nils, .nils, .str [], .str [], .str [], .str [], .bool false, .nils, .int .i64 0, .str [], .str [], .str [], .int .i64 0])) (u := e.av) sz75 rfl rfl hnb rfl hsty.plain.ok) ?_
    rw [← hst4]
    refine WR.nil ?_
    refine after.seq ?_
    refine WK.seq ?_
    refine WK.region ?_
    refine WR.op rfl rfl (r_ldA agg75 sz75 rfl hd4 (Nat.le_refl 16) rfl) rfl ?_
    refine WR.op rfl rfl rfl rfl ?_
    refine WR.call (f := 47) («as» := [e.av, .int .i64 (heldN n)]) rfl (.inl rfl) rfl rfl rfl rfl ((hsty.tell _ (hx4.same hN)).mono ?_)
    rintro v5 st5 ⟨rfl, k5⟩
    have hd5 : st5.heap.get st3.next = some (boxO 75 e.av) := by rw [k5.heap _ (by omega)]; exact hd4
    have ha6 := push_self st5 (boxO 72 (.agg [.str [], .str []]))
    have hl5 : st3.next < st5.next := Nat.lt_of_lt_of_le (by omega) k5.nx
    have hd6 : (st5.push (boxO 72 (.agg [.str [], .str []]))).heap.get st3.next = some (boxO 75 e.av) := by rw [push_lt _ _ hl5]; exact hd5
    have hn6 : (st5.push (boxO 72 (.agg [.str [], .str []]))).next = st5.next + 1 := by rw [push_next]
    have hx6 : Ext st (st5.push (boxO 72 (.agg [.str [], .str []]))) := ((k3.trans hx4).trans k5).push (boxO 72 (.agg [.str [], .str []]))
    refine WR.op rfl rfl rfl rfl ?_
    refine WR.op rfl rfl rfl rfl ?_
    refine WR.op rfl rfl rfl rfl ?_
    refine WR.op rfl rfl rfl rfl ?_
    refine WR.op rfl rfl rfl rfl ?_
    refine WR.nil ?_
    refine after.seq ?_
    refine WK.seq ?_
    refine WK.region ?_
    refine WR.op rfl rfl (r_alloc ze72 rfl) rfl ?_
    refine WR.nil ?_
    refine after.seq ?_
    refine WK.seq ?_
    refine WK.seq ?_
    refine WK.region ?_
    refine WR.op rfl rfl (r_ldA agg75 sz75 rfl hd6 (Nat.le_refl 16) rfl) rfl ?_
    refine WR.op rfl rfl rfl rfl ?_
    refine WR.call (f := 48) («as» := [e.av, .int .i64 (heldN n)]) rfl (.inl rfl) rfl rfl rfl rfl ((uses_ok (hs 48 (by simp)) hsty.plain (heldN n) _).mono ?_)
    rw [hq4, hu]
    rintro v7 st7 ⟨rfl, k7⟩
    have ha7 : st7.heap.get st5.next = some (boxO 72 (.agg [.str [], .str []])) := by rw [k7.heap _ (by omega)]; exact ha6
    have hd7 : st7.heap.get st3.next = some (boxO 75 e.av) := by rw [k7.heap _ (by omega)]; exact hd6
    have hx7 : Ext st st7 := hx6.trans k7
    have hn7 : st5.next + 1 ≤ st7.next := by have := k7.nx; omega
    refine WR.nil ?_
    refine after.seq ?_
    refine WK.cond rfl (fun _ => ?_) (fun h => (by cases h))
    refine WK.region ?_
    refine WR.op rfl rfl (r_fa fo75_5 rfl) rfl ?_
    refine WR.op rfl rfl (r_ldA (l := [.str e.neg0, .str e.neg1]) agg72 sz72 rfl hd7 (show 7 ≤ 16 by decide) rfl) rfl ?_
    obtain ⟨st8, hst8⟩ : ∃ s, s = st7.setObj st5.next (boxO 72 (.agg [.str e.neg0, .str e.neg1])) := ⟨_, rfl⟩
    have ha8 : st8.heap.get st5.next = some (boxO 72 (.agg [.str e.neg0, .str e.neg1])) := by rw [hst8, set_get, if_pos rfl]
    have hd8 : st8.heap.get st3.next = some (boxO 75 e.av) := by rw [hst8, set_get, if_neg (by omega)]; exact hd7
    have hx8 : Ext st st8 := by rw [hst8]; exact hx7.set (by have := k3.nx; omega) _
    have hn8 : st8.next = st7.next := by rw [hst8, set_next]
    refine WR.op0 rfl rfl (r_st (v := (.agg [.str [], .str []])) (u := (.agg [.str e.neg0, .str e.neg1])) sz72 rfl rfl ha7 rfl rfl) ?_
    rw [← hst8]
    refine WR.nil ?_
    refine after.seq ?_
    refine WK.seq ?_
    refine WK.draw ?_
    have har : (resv 11 st8).heap.get st5.next = some (boxO 72 (.agg [.str e.neg0, .str e.neg1])) := ha8
    have hlr : st5.next < (resv 11 st8).next := Nat.lt_of_lt_of_le (by omega) (Nat.le_add_right _ _)
    refine WD.pure rfl (.inl rfl) rfl rfl rfl ?_
    refine WD.call (f := 49) rfl (.inl rfl) rfl rfl rfl rfl rfl ((runeCount_ok (hs 49 (by simp)) s.txt (by omega) (resv 11 st8)).mono ?_)
    rintro v9 st9 ⟨rfl, k9⟩
    have ha9 : st9.heap.get st5.next = some (boxO 72 (.agg [.str e.neg0, .str e.neg1])) := by rw [k9.heap _ hlr]; exact har
    refine WD.pure rfl (.inl rfl) rfl (r_iaA (n := 0) un72 sz9 rfl rfl (by decide)) rfl ?_
    refine WD.read rfl (.inl rfl) rfl (r_ld agg9 rfl ha9 rfl) rfl ?_
    refine WD.call (f := 49) rfl (.inl rfl) rfl rfl rfl rfl rfl ((runeCount_ok (hs 49 (by simp)) e.neg0 (by rw [hq0]; omega) st9).mono ?_)
    rintro v10 st10 ⟨rfl, k10⟩
    have hl10 : st5.next < st10.next := Nat.lt_of_lt_of_le hlr (Nat.le_trans k9.nx k10.nx)
    have ha10 : st10.heap.get st5.next = some (boxO 72 (.agg [.str e.neg0, .str e.neg1])) := by rw [k10.heap _ (Nat.lt_of_lt_of_le hlr k9.nx)]; exact ha9
    refine WD.pure rfl (.inl rfl) rfl (r_arith ⟨by decide, by decide⟩ rfl rfl (add_nat (by omega))) rfl ?_
    refine WD.pure rfl (.inl rfl) rfl (r_iaA (n := 1) un72 sz9 rfl rfl (by decide)) rfl ?_
    refine WD.read rfl (.inl rfl) rfl (r_ld agg9 rfl ha10 rfl) rfl ?_
    refine WD.call (f := 49) rfl (.inl rfl) rfl rfl rfl rfl rfl ((runeCount_ok (hs 49 (by simp)) e.neg1 (by rw [hq1]; omega) st10).mono ?_)
    rintro v11 st11 ⟨rfl, k11⟩
    have ha11 : st11.heap.get st5.next = some (boxO 72 (.agg [.str e.neg0, .str e.neg1])) := by rw [k11.heap _ hl10]; exact ha10
    refine WD.pure rfl (.inl rfl) rfl (r_arith ⟨by decide, by decide⟩ rfl rfl (add_nat (by omega))) rfl ?_
    refine WD.pure rfl (.inl rfl) rfl rfl rfl ?_
    refine WD.nil ⟨.inr ?_, ?_⟩
    · have key : ∀ {i bi : Nat} {S : St}, S ∈ need i bi ([(8, 223, st11), (4, 15, st10), (1, 1, st9)] : Hist).reverse (resv 11 st8) → S.heap.get st5.next = some (boxO 72 (.agg [.str e.neg0, .str e.neg1])) := by
        intro i bi S hS
        rcases mem_need hS with rfl | ⟨q, hq, rfl⟩
        · exact har
        · simp only [List.reverse_cons, List.reverse_nil, List.nil_append, List.cons_append, List.mem_cons, List.not_mem_nil, or_false] at hq
          rcases hq with rfl | rfl | rfl
          · exact ha9
          · exact ha10
          · exact ha11
      intro e he
      simp only [List.mem_cons, List.not_mem_nil, or_false] at he
      rcases he with rfl | rfl
      · exact ⟨same_str _, fun S hS => r_ld agg9 rfl (key hS) rfl⟩
      · exact ⟨same_str _, fun S hS => r_ld agg9 rfl (key hS) rfl⟩
    · refine after.seq ?_
      refine WK.seq ?_
      have hd11 : st11.heap.get st3.next = some (boxO 75 e.av) := by rw [k11.heap _ (by omega), k10.heap _ (by have := k9.nx; omega), k9.heap _ (by omega)]; exact hd8
      refine WK.draw ?_
      have har2 : (resv 17 st11).heap.get st5.next = some (boxO 72 (.agg [.str e.neg0, .str e.neg1])) := ha11
      have hdr2 : (resv 17 st11).heap.get st3.next = some (boxO 75 e.av) := hd11
      have hr17 : st11.next ≤ (resv 17 st11).next := Nat.le_add_right _ _
      have hrep' : ∀ st', CallW (CS sum) 50 [.str e.padSign, .int .i64 (max (e.pad - ((runes (s.txt.length + 1) s.txt + runes ((e.neg0 : List UInt8).length + 1) e.neg0 + runes ((e.neg1 : List UInt8).length + 1) e.neg1 : Nat) : Int)) 0)] st' fun v st2 => v = .str p ∧ Ext st' st2 := by
        have := hrep
        unfold longN aroundN at this
        rw [hu] at this
        rw [hq2, hq3]
        rw [hq0, hq1]; exact this
      refine WD.pure rfl (.inl rfl) rfl (r_iaA (n := 0) un72 sz9 rfl rfl (by decide)) rfl ?_
      refine WD.read rfl (.inl rfl) rfl (r_ld agg9 rfl har2 rfl) rfl ?_
      refine WD.pure rfl (.inl rfl) rfl (r_fa fo75_11 rfl) rfl ?_
      refine WD.read rfl (.inl rfl) rfl (r_ld agg9 rfl hdr2 rfl) rfl ?_
      refine WD.pure rfl (.inl rfl) rfl (r_fa fo75_10 rfl) rfl ?_
      refine WD.read rfl (.inl rfl) rfl (r_ld agg3 rfl hdr2 rfl) rfl ?_
      refine WD.pure rfl (.inl rfl) rfl rfl rfl ?_
      refine WD.pure rfl (.inl rfl) rfl (r_arith ⟨by decide, by decide⟩ rfl rfl (sub_int (by omega) (by omega))) rfl ?_
      refine WD.pure rfl (.inl rfl) rfl (r_max2 rfl rfl) rfl ?_
      refine WD.call (f := 50) rfl (.inl rfl) rfl rfl rfl rfl rfl ((hrep' (resv 17 st11)).mono ?_)
      rintro v12 st12 ⟨rfl, k12⟩
      have ha12 : st12.heap.get st5.next = some (boxO 72 (.agg [.str e.neg0, .str e.neg1])) := by rw [k12.heap _ (by have := k11.nx; omega)]; exact har2
      have hd12 : st12.heap.get st3.next = some (boxO 75 e.av) := by rw [k12.heap _ (by have := k11.nx; omega)]; exact hdr2
      refine WD.pure rfl (.inl rfl) rfl (r_cat rfl rfl (by rw [hq0]; omega)) rfl ?_
      refine WD.pure rfl (.inl rfl) rfl rfl rfl ?_
      refine WD.pure rfl (.inl rfl) rfl (r_cat rfl rfl (by simp only [List.length_append]; rw [hq0]; omega)) rfl ?_
      refine WD.pure rfl (.inl rfl) rfl (r_iaA (n := 1) un72 sz9 rfl rfl (by decide)) rfl ?_
      refine WD.read rfl (.inl rfl) rfl (r_ld agg9 rfl ha12 rfl) rfl ?_
      refine WD.pure rfl (.inl rfl) rfl (r_cat rfl rfl (by simp only [List.length_append]; rw [hq0, hq1]; omega)) rfl ?_
      refine WD.pure rfl (.inl rfl) rfl rfl rfl ?_
      refine WD.nil ⟨.inr ?_, ?_⟩
      · have key : ∀ {i bi : Nat} {S : St}, S ∈ need i bi ([(9, 508, st12)] : Hist).reverse (resv 17 st11) → S.heap.get st5.next = some (boxO 72 (.agg [.str e.neg0, .str e.neg1])) ∧ S.heap.get st3.next = some (boxO 75 e.av) := by
          intro i bi S hS
          rcases mem_need hS with rfl | ⟨q, hq, rfl⟩
          · exact ⟨har2, hdr2⟩
          · simp only [List.reverse_cons, List.reverse_nil, List.nil_append, List.mem_cons, List.not_mem_nil, or_false] at hq
            subst hq
            exact ⟨ha12, hd12⟩
        intro x hx
        simp only [List.mem_cons, List.not_mem_nil, or_false] at hx
        rcases hx with rfl | rfl | rfl | rfl
        · exact ⟨same_str _, fun S hS => r_ld agg9 rfl (key hS).1 rfl⟩
        · exact ⟨same_int _ _, fun S hS => r_ld agg3 rfl (key hS).2 rfl⟩
        · exact ⟨same_str _, fun S hS => r_ld agg9 rfl (key hS).2 rfl⟩
        · exact ⟨same_str _, fun S hS => r_ld agg9 rfl (key hS).1 rfl⟩
      · refine after.seq ?_
        refine WK.ret ?_
        refine ⟨ret_ne 0, ret_ne, [.str ((((e.neg0 ++ p) ++ s.txt) ++ e.neg1))], (by rw [res23]; rfl), ?_, ((((hx8.resv 11).trans ((k9.trans k10).trans k11))).resv 17).trans k12⟩
        unfold textN aroundN
        rw [hu]
        rw [hq0, hq1]
        rfl
  | false =>
    refine CallW.enter (hs 23 (by simp) _ _) Tryz.func23 body23 c23_of rfl ?_
    rw [nt23]
    unfold c23
    refine WK.seq ?_
    refine WK.region ?_
    refine WR.op rfl rfl rfl rfl ?_
    refine WR.nil ?_
    refine after.seq ?_
    refine WK.seq ?_
    refine WK.region ?_
    refine WR.op rfl rfl rfl rfl ?_
    refine WR.call (f := 44) («as» := [.int .i64 n]) rfl (.inl rfl) rfl rfl rfl rfl ((held_ok (hs 44 (by simp)) n _).mono ?_)
    rintro v1 st1 ⟨rfl, hst1⟩
    rw [hst1]
    clear hst1 st1
    refine WR.op rfl rfl rfl rfl ?_
    refine WR.nil ?_
    refine after.seq ?_
    refine WK.seq ?_
    refine WK.region ?_
    refine WR.op rfl rfl rfl rfl ?_
    refine WR.call (f := 45) («as» := [.ptr b k]) rfl (.inl rfl) rfl rfl rfl rfl ((some_ok (hs 45 (by simp)) b k _).mono ?_)
    rintro v2 st2 ⟨rfl, hst2⟩
    rw [hst2]
    clear hst2 st2
    refine WR.op rfl rfl rfl rfl ?_
    refine WR.op rfl rfl rfl rfl ?_
    refine WR.call (f := 46) («as» := [.ptr b k, .str nm, .int .i64 (heldN n)]) rfl (.inl rfl) rfl rfl rfl rfl ((hch _ (Ext.refl _)).mono ?_)
    rintro v3 st3 ⟨⟨L, e, f, N, hN, hL, hsty, hrow⟩, k3⟩
    have hq0 : e.neg0 = s.base.neg0 := by rw [hsty.base]
    have hq1 : e.neg1 = s.base.neg1 := by rw [hsty.base]
    have hq2 : e.padSign = s.base.padSign := by rw [hsty.base]
    have hq3 : e.pad = s.base.pad := by rw [hsty.base]
    have hq4 : e.sys = s.base.sys := by rw [hsty.base]
    have he0 := runes_le (e.neg0.length + 1) e.neg0
    have he1 := runes_le (e.neg1.length + 1) e.neg1
    have hle0 : e.neg0.length ≤ 1000000 := by rw [hq0]; exact hl2
    have hle1 : e.neg1.length ≤ 1000000 := by rw [hq1]; exact hl3
    have hr0 := runes_le (([] : List UInt8).length + 1) []
    have hz0 : ([] : List UInt8).length = 0 := rfl
    have hpe1 : 0 ≤ e.pad := by rw [hq3]; exact hp1
    have hpe2 : e.pad ≤ 1000000 := by rw [hq3]; exact hp2
    have hlen : (L ++ [e.cells]).length = L.length + 1 := by simp
    obtain ⟨mm, off, hia, hla⟩ := hrow.els.at (n := (L ++ [e.cells]).length - 1) un88 sz75 (by omega)
    have hget : (L ++ [e.cells])[(L ++ [e.cells]).length - 1]? = some e.cells := by rw [hlen]; simp
    refine WR.op rfl rfl rfl rfl ?_
    refine WR.nil ?_
    refine after.seq ?_
    refine WK.seq ?_
    refine WK.region ?_
    refine WR.op rfl rfl rfl rfl ?_
    refine WR.op rfl rfl rfl rfl ?_
    refine WR.op rfl rfl (r_lenE ⟨_, un88⟩ rfl hrow.els) rfl ?_
    refine WR.op rfl rfl (r_arith ⟨by decide, by decide⟩ rfl rfl (sub_nat (b := 1) (by omega) (by omega))) rfl ?_
    refine WR.op rfl rfl (hia rfl rfl) rfl ?_
    refine WR.op rfl rfl ((hla e.cells hget rfl _ _ _ rfl).2 agg75 sz75 (by decide)) rfl ?_
    refine WR.op rfl rfl (r_alloc ze75 rfl) rfl ?_
    have hnb := push_self st3 (boxO 75 (.agg [.str [], .str [], .int .i64 0, .nils, .nils, .str [], .str [], .str [], .str [], .bool false, .nils, .int .i64 0, .str [], .str [], .str [], .int .i64 0]))
    obtain ⟨st4, hst4⟩ : ∃ s, s = (st3.push (boxO 75 (.agg [.str [], .str [], .int .i64 0, .nils, .nils, .str [], .str [], .str [], .str [], .bool false, .nils, .int .i64 0, .str [], .str [], .str [], .int .i64 0]))).setObj st3.next (boxO 75 e.av) := ⟨_, rfl⟩
    have hd4 : st4.heap.get st3.next = some (boxO 75 e.av) := by rw [hst4, set_get, if_pos rfl]
    have hn4 : st4.next = st3.next + 1 := by rw [hst4, set_next, push_next]
    have hx4 : Ext st3 st4 := by rw [hst4]; exact ((Ext.refl st3).push _).set (Nat.le_refl _) _
    refine WR.op0 rfl rfl (r_st (v := (.agg [.str [], .str [], .int .i64 0, .nils, .nils, .str [], .str [], .str [], .str [], .bool false, .nils, .int .i64 0, .str [], .str [], .str [], .int .i64 0])) (u := e.av) sz75 rfl rfl hnb rfl hsty.plain.ok) ?_
    rw [← hst4]
    refine WR.nil ?_
    refine after.seq ?_
    refine WK.seq ?_
    refine WK.region ?_
    refine WR.op rfl rfl (r_ldA agg75 sz75 rfl hd4 (Nat.le_refl 16) rfl) rfl ?_
    refine WR.op rfl rfl rfl rfl ?_
    refine WR.call (f := 47) («as» := [e.av, .int .i64 (heldN n)]) rfl (.inl rfl) rfl rfl rfl rfl ((hsty.tell _ (hx4.same hN)).mono ?_)
    rintro v5 st5 ⟨rfl, k5⟩
    have hd5 : st5.heap.get st3.next = some (boxO 75 e.av) := by rw [k5.heap _ (by omega)]; exact hd4
    have ha6 := push_self st5 (boxO 72 (.agg [.str [], .str []]))
    have hl5 : st3.next < st5.next := Nat.lt_of_lt_of_le (by omega) k5.nx
    have hd6 : (st5.push (boxO 72 (.agg [.str [], .str []]))).heap.get st3.next = some (boxO 75 e.av) := by rw [push_lt _ _ hl5]; exact hd5
    have hn6 : (st5.push (boxO 72 (.agg [.str [], .str []]))).next = st5.next + 1 := by rw [push_next]
    have hx6 : Ext st (st5.push (boxO 72 (.agg [.str [], .str []]))) := ((k3.trans hx4).trans k5).push (boxO 72 (.agg [.str [], .str []]))
    refine WR.op rfl rfl rfl rfl ?_
    refine WR.op rfl rfl rfl rfl ?_
    refine WR.op rfl rfl rfl rfl ?_
    refine WR.op rfl rfl rfl rfl ?_
    refine WR.op rfl rfl rfl rfl ?_
    refine WR.nil ?_
    refine after.seq ?_
    refine WK.seq ?_
    refine WK.region ?_
    refine WR.op rfl rfl (r_alloc ze72 rfl) rfl ?_
    refine WR.nil ?_
    refine after.seq ?_
    refine WK.seq ?_
    refine WK.seq ?_
    refine WK.region ?_
    refine WR.op rfl rfl (r_ldA agg75 sz75 rfl hd6 (Nat.le_refl 16) rfl) rfl ?_
    refine WR.op rfl rfl rfl rfl ?_
    refine WR.call (f := 48) («as» := [e.av, .int .i64 (heldN n)]) rfl (.inl rfl) rfl rfl rfl rfl ((uses_ok (hs 48 (by simp)) hsty.plain (heldN n) _).mono ?_)
    rw [hq4, hu]
    rintro v7 st7 ⟨rfl, k7⟩
    have ha7 : st7.heap.get st5.next = some (boxO 72 (.agg [.str [], .str []])) := by rw [k7.heap _ (by omega)]; exact ha6
    have hd7 : st7.heap.get st3.next = some (boxO 75 e.av) := by rw [k7.heap _ (by omega)]; exact hd6
    have hx7 : Ext st st7 := hx6.trans k7
    have hn7 : st5.next + 1 ≤ st7.next := by have := k7.nx; omega
    refine WR.nil ?_
    refine after.seq ?_
    refine WK.cond rfl (fun h => (by cases h)) (fun _ => ?_)
    refine WK.skip ?_
    refine after.seq ?_
    refine WK.seq ?_
    obtain ⟨st8, hst8⟩ : ∃ s, s = st7 := ⟨_, rfl⟩
    have ha8 : st8.heap.get st5.next = some (boxO 72 (.agg [.str [], .str []])) := by rw [hst8]; exact ha7
    have hd8 : st8.heap.get st3.next = some (boxO 75 e.av) := by rw [hst8]; exact hd7
    have hx8 : Ext st st8 := by rw [hst8]; exact hx7
    have hn8 : st8.next = st7.next := by rw [hst8]
    rw [← hst8]
    refine WK.draw ?_
    have har : (resv 11 st8).heap.get st5.next = some (boxO 72 (.agg [.str [], .str []])) := ha8
    have hlr : st5.next < (resv 11 st8).next := Nat.lt_of_lt_of_le (by omega) (Nat.le_add_right _ _)
    refine WD.pure rfl (.inl rfl) rfl rfl rfl ?_
    refine WD.call (f := 49) rfl (.inl rfl) rfl rfl rfl rfl rfl ((runeCount_ok (hs 49 (by simp)) s.txt (by omega) (resv 11 st8)).mono ?_)
    rintro v9 st9 ⟨rfl, k9⟩
    have ha9 : st9.heap.get st5.next = some (boxO 72 (.agg [.str [], .str []])) := by rw [k9.heap _ hlr]; exact har
    refine WD.pure rfl (.inl rfl) rfl (r_iaA (n := 0) un72 sz9 rfl rfl (by decide)) rfl ?_
    refine WD.read rfl (.inl rfl) rfl (r_ld agg9 rfl ha9 rfl) rfl ?_
    refine WD.call (f := 49) rfl (.inl rfl) rfl rfl rfl rfl rfl ((runeCount_ok (hs 49 (by simp)) [] (by simp) st9).mono ?_)
    rintro v10 st10 ⟨rfl, k10⟩
    have hl10 : st5.next < st10.next := Nat.lt_of_lt_of_le hlr (Nat.le_trans k9.nx k10.nx)
    have ha10 : st10.heap.get st5.next = some (boxO 72 (.agg [.str [], .str []])) := by rw [k10.heap _ (Nat.lt_of_lt_of_le hlr k9.nx)]; exact ha9
    refine WD.pure rfl (.inl rfl) rfl (r_arith ⟨by decide, by decide⟩ rfl rfl (add_nat (by omega))) rfl ?_
    refine WD.pure rfl (.inl rfl) rfl (r_iaA (n := 1) un72 sz9 rfl rfl (by decide)) rfl ?_
    refine WD.read rfl (.inl rfl) rfl (r_ld agg9 rfl ha10 rfl) rfl ?_
    refine WD.call (f := 49) rfl (.inl rfl) rfl rfl rfl rfl rfl ((runeCount_ok (hs 49 (by simp)) [] (by simp) st10).mono ?_)
    rintro v11 st11 ⟨rfl, k11⟩
    have ha11 : st11.heap.get st5.next = some (boxO 72 (.agg [.str [], .str []])) := by rw [k11.heap _ hl10]; exact ha10
    refine WD.pure rfl (.inl rfl) rfl (r_arith ⟨by decide, by decide⟩ rfl rfl (add_nat (by omega))) rfl ?_
    refine WD.pure rfl (.inl rfl) rfl rfl rfl ?_
    refine WD.nil ⟨.inr ?_, ?_⟩
    · have key : ∀ {i bi : Nat} {S : St}, S ∈ need i bi ([(8, 223, st11), (4, 15, st10), (1, 1, st9)] : Hist).reverse (resv 11 st8) → S.heap.get st5.next = some (boxO 72 (.agg [.str [], .str []])) := by
        intro i bi S hS
        rcases mem_need hS with rfl | ⟨q, hq, rfl⟩
        · exact har
        · simp only [List.reverse_cons, List.reverse_nil, List.nil_append, List.cons_append, List.mem_cons, List.not_mem_nil, or_false] at hq
          rcases hq with rfl | rfl | rfl
          · exact ha9
          · exact ha10
          · exact ha11
      intro e he
      simp only [List.mem_cons, List.not_mem_nil, or_false] at he
      rcases he with rfl | rfl
      · exact ⟨same_str _, fun S hS => r_ld agg9 rfl (key hS) rfl⟩
      · exact ⟨same_str _, fun S hS => r_ld agg9 rfl (key hS) rfl⟩
    · refine after.seq ?_
      refine WK.seq ?_
      have hd11 : st11.heap.get st3.next = some (boxO 75 e.av) := by rw [k11.heap _ (by omega), k10.heap _ (by have := k9.nx; omega), k9.heap _ (by omega)]; exact hd8
      refine WK.draw ?_
      have har2 : (resv 17 st11).heap.get st5.next = some (boxO 72 (.agg [.str [], .str []])) := ha11
      have hdr2 : (resv 17 st11).heap.get st3.next = some (boxO 75 e.av) := hd11
      have hr17 : st11.next ≤ (resv 17 st11).next := Nat.le_add_right _ _
      have hrep' : ∀ st', CallW (CS sum) 50 [.str e.padSign, .int .i64 (max (e.pad - ((runes (s.txt.length + 1) s.txt + runes (([] : List UInt8).length + 1) [] + runes (([] : List UInt8).length + 1) [] : Nat) : Int)) 0)] st' fun v st2 => v = .str p ∧ Ext st' st2 := by
        have := hrep
        unfold longN aroundN at this
        rw [hu] at this
        rw [hq2, hq3]
        exact this
      refine WD.pure rfl (.inl rfl) rfl (r_iaA (n := 0) un72 sz9 rfl rfl (by decide)) rfl ?_
      refine WD.read rfl (.inl rfl) rfl (r_ld agg9 rfl har2 rfl) rfl ?_
      refine WD.pure rfl (.inl rfl) rfl (r_fa fo75_11 rfl) rfl ?_
      refine WD.read rfl (.inl rfl) rfl (r_ld agg9 rfl hdr2 rfl) rfl ?_
      refine WD.pure rfl (.inl rfl) rfl (r_fa fo75_10 rfl) rfl ?_
      refine WD.read rfl (.inl rfl) rfl (r_ld agg3 rfl hdr2 rfl) rfl ?_
      refine WD.pure rfl (.inl rfl) rfl rfl rfl ?_
      refine WD.pure rfl (.inl rfl) rfl (r_arith ⟨by decide, by decide⟩ rfl rfl (sub_int (by omega) (by omega))) rfl ?_
      refine WD.pure rfl (.inl rfl) rfl (r_max2 rfl rfl) rfl ?_
      refine WD.call (f := 50) rfl (.inl rfl) rfl rfl rfl rfl rfl ((hrep' (resv 17 st11)).mono ?_)
      rintro v12 st12 ⟨rfl, k12⟩
      have ha12 : st12.heap.get st5.next = some (boxO 72 (.agg [.str [], .str []])) := by rw [k12.heap _ (by have := k11.nx; omega)]; exact har2
      have hd12 : st12.heap.get st3.next = some (boxO 75 e.av) := by rw [k12.heap _ (by have := k11.nx; omega)]; exact hdr2
      refine WD.pure rfl (.inl rfl) rfl (r_cat rfl rfl (by simp only [List.length_nil]; omega)) rfl ?_
      refine WD.pure rfl (.inl rfl) rfl rfl rfl ?_
      refine WD.pure rfl (.inl rfl) rfl (r_cat rfl rfl (by simp only [List.length_append, List.length_nil]; omega)) rfl ?_
      refine WD.pure rfl (.inl rfl) rfl (r_iaA (n := 1) un72 sz9 rfl rfl (by decide)) rfl ?_
      refine WD.read rfl (.inl rfl) rfl (r_ld agg9 rfl ha12 rfl) rfl ?_
      refine WD.pure rfl (.inl rfl) rfl (r_cat rfl rfl (by simp only [List.length_append, List.length_nil]; omega)) rfl ?_
      refine WD.pure rfl (.inl rfl) rfl rfl rfl ?_
      refine WD.nil ⟨.inr ?_, ?_⟩
      · have key : ∀ {i bi : Nat} {S : St}, S ∈ need i bi ([(9, 508, st12)] : Hist).reverse (resv 17 st11) → S.heap.get st5.next = some (boxO 72 (.agg [.str [], .str []])) ∧ S.heap.get st3.next = some (boxO 75 e.av) := by
          intro i bi S hS
          rcases mem_need hS with rfl | ⟨q, hq, rfl⟩
          · exact ⟨har2, hdr2⟩
          · simp only [List.reverse_cons, List.reverse_nil, List.nil_append, List.mem_cons, List.not_mem_nil, or_false] at hq
            subst hq
            exact ⟨ha12, hd12⟩
        intro x hx
        simp only [List.mem_cons, List.not_mem_nil, or_false] at hx
        rcases hx with rfl | rfl | rfl | rfl
        · exact ⟨same_str _, fun S hS => r_ld agg9 rfl (key hS).1 rfl⟩
        · exact ⟨same_int _ _, fun S hS => r_ld agg3 rfl (key hS).2 rfl⟩
        · exact ⟨same_str _, fun S hS => r_ld agg9 rfl (key hS).2 rfl⟩
        · exact ⟨same_str _, fun S hS => r_ld agg9 rfl (key hS).1 rfl⟩
      · refine after.seq ?_
        refine WK.ret ?_
        refine ⟨ret_ne 0, ret_ne, [.str (((([] ++ p) ++ s.txt) ++ []))], (by rw [res23]; rfl), ?_, ((((hx8.resv 11).trans ((k9.trans k10).trans k11))).resv 17).trans k12⟩
        unfold textN aroundN
        rw [hu]
        rfl
end Go.Proofs.Tz
