/- ContentCuts: the law's walk, whole. -/
import Derived.Test.YtjnahfpnehmehaaGreatDoorCutsLoops
namespace Go.Proofs.Tz
open Go Go.AE Go.RowKit Go.Proofs
set_option maxRecDepth 100000
theorem iltb_t {a b : Int} (h : a < b) : iltb a b = true := by rw [iltb_eq]; exact decide_eq_true h
theorem iltb_f {a b : Int} (h : ¬ a < b) : iltb a b = false := by rw [iltb_eq]; exact decide_eq_false h
/-- What the law leaves. -/
def CutsPost : Post3 := fun e env st' => e ≠ .exit 0 ∧ (∀ i, e ≠ .exit i) ∧ ∃ vs, resE (CS (sumL 14)).P env st' Tryz.f3.results.toList = some vs ∧ one vs = .bool true
/-- The law from where the text is put together. -/
def c3rest : SC := (.seq (.region [⟨.move (.tmp 2), some 67, none⟩, ⟨.slice 9 (.const (.string ⟨#[120, 120, 120, 120, 120]⟩)) none (some (.tmp 67)) none, some 68, none⟩, ⟨.assign (.tmp 68), some 8, none⟩])
  (.seq (.seq (.region [⟨.assign (.const (.int .i64 0)), some 9, none⟩])
  (.block 2 (.loop (.seq (.seq (.region [⟨.move (.tmp 9), some 69, none⟩, ⟨.move (.tmp 0), some 70, none⟩, ⟨.binOp .lss 3 (.tmp 69) (.tmp 70) 3, some 71, none⟩])
  (.cond (.tmp 71) .skip (.exit 2)))
  (.seq (.block 3 (.region [⟨.move (.tmp 8), some 74, none⟩, ⟨.move (.tmp 1), some 75, none⟩, ⟨.binOp .add 9 (.tmp 74) (.tmp 75) 9, some 76, none⟩, ⟨.assign (.tmp 76), some 8, none⟩]))
  (.region [⟨.move (.tmp 9), some 72, none⟩, ⟨.binOp .add 3 (.tmp 72) (.const (.int .i64 1)) 3, some 73, none⟩, ⟨.assign (.tmp 73), some 9, none⟩]))))))
  (.seq (.region [⟨.move (.tmp 8), some 78, none⟩, ⟨.call ⟨.value (.func 17), #[(.tmp 78)], #[9]⟩, some 79, none⟩, ⟨.move (.tmp 79), some 77, none⟩, ⟨.extract (.tmp 77) 0, some 80, none⟩, ⟨.extract (.tmp 77) 1, some 81, none⟩, ⟨.assign (.tmp 80), some 10, none⟩, ⟨.assign (.tmp 81), some 11, none⟩])
  (.seq (.seq (.region [⟨.move (.tmp 8), some 82, none⟩, ⟨.call ⟨.builtin .len, #[(.tmp 82)], #[9]⟩, some 83, none⟩, ⟨.binOp .leq 3 (.tmp 83) (.const (.int .i64 2000)) 3, some 84, none⟩])
  (.cond (.tmp 84) (.seq (.region [⟨.move (.tmp 10), some 85, none⟩, ⟨.move (.tmp 8), some 86, none⟩, ⟨.binOp .eql 9 (.tmp 85) (.tmp 86) 9, some 87, none⟩, ⟨.move (.tmp 87), some 88, none⟩, ⟨.move (.tmp 11), some 89, some (88, true)⟩, ⟨.unOp .not 4 (.tmp 89), some 90, some (88, true)⟩, ⟨.pick (.tmp 88) (.tmp 90) (.const (.bool false)), some 91, none⟩, ⟨.move (.tmp 91), some 92, none⟩, ⟨.call ⟨.value (.func 14), #[], #[]⟩, some 93, some (92, true)⟩, ⟨.pick (.tmp 92) (.tmp 93) (.const (.bool false)), some 94, none⟩, ⟨.assign (.tmp 94), some 6, none⟩])
  .ret) .skip))
  (.seq (.region [⟨.move (.tmp 2), some 95, none⟩, ⟨.move (.tmp 2), some 96, none⟩, ⟨.binOp .sub 3 (.const (.int .i64 2000)) (.tmp 96) 3, some 97, none⟩, ⟨.move (.tmp 1), some 98, none⟩, ⟨.call ⟨.builtin .len, #[(.tmp 98)], #[9]⟩, some 99, none⟩, ⟨.binOp .quo 3 (.tmp 97) (.tmp 99) 3, some 100, none⟩, ⟨.move (.tmp 1), some 101, none⟩, ⟨.call ⟨.builtin .len, #[(.tmp 101)], #[9]⟩, some 102, none⟩, ⟨.binOp .mul 3 (.tmp 100) (.tmp 102) 3, some 103, none⟩, ⟨.binOp .add 3 (.tmp 95) (.tmp 103) 3, some 104, none⟩, ⟨.assign (.tmp 104), some 12, none⟩])
  (.seq (.region [⟨.move (.tmp 11), some 105, none⟩, ⟨.move (.tmp 105), some 106, none⟩, ⟨.move (.tmp 10), some 107, some (106, true)⟩, ⟨.call ⟨.builtin .len, #[(.tmp 107)], #[9]⟩, some 108, some (106, true)⟩, ⟨.move (.tmp 12), some 109, some (106, true)⟩, ⟨.binOp .eql 3 (.tmp 108) (.tmp 109) 3, some 110, some (106, true)⟩, ⟨.pick (.tmp 106) (.tmp 110) (.const (.bool false)), some 111, none⟩, ⟨.move (.tmp 111), some 112, none⟩, ⟨.move (.tmp 10), some 113, some (112, true)⟩, ⟨.move (.tmp 8), some 114, some (112, true)⟩, ⟨.move (.tmp 12), some 115, some (112, true)⟩, ⟨.slice 9 (.tmp 114) none (some (.tmp 115)) none, some 116, some (112, true)⟩, ⟨.binOp .eql 9 (.tmp 113) (.tmp 116) 9, some 117, some (112, true)⟩, ⟨.pick (.tmp 112) (.tmp 117) (.const (.bool false)), some 118, none⟩, ⟨.move (.tmp 118), some 119, none⟩, ⟨.call ⟨.value (.func 14), #[], #[]⟩, some 120, some (119, true)⟩, ⟨.pick (.tmp 119) (.tmp 120) (.const (.bool false)), some 121, none⟩, ⟨.assign (.tmp 121), some 6, none⟩])
  .ret))))))
theorem no3 : ∀ xs st, sumL 14 3 xs st = none := fun xs st => sumL_no (by decide) xs st
theorem no15 : ∀ xs st, sumL 14 15 xs st = none := fun xs st => sumL_no (by decide) xs st
theorem no16 : ∀ xs st, sumL 14 16 xs st = none := fun xs st => sumL_no (by decide) xs st
theorem no17 : ∀ xs st, sumL 14 17 xs st = none := fun xs st => sumL_no (by decide) xs st

theorem cuts_rest {n t : Nat} (hn : n ≤ 3000) (ht : t ≤ 5) {g : List UInt8} (hg1 : 1 ≤ g.length) (hg4 : g.length ≤ 4) (hdec : ∀ k, (dec8 (g ++ gs k g)).2 = g.length) {st : St} (hk : KnowsG st) (h64 : 64 ≤ st.next) {env : Env}
    (h0 : lookE 0 env = some (.int .i64 (n : Int))) (h1 : lookE 1 env = some (.str g)) (h2 : lookE 2 env = some (.int .i64 (t : Int))) : WK (CS (sumL 14)) 122 none c3rest [] env st CutsPost := by
  have htl : (List.take t [120, 120, 120, 120, 120] : List UInt8) = List.replicate t 120 := by
    show List.take t (List.replicate 5 120) = _
    rw [List.take_replicate, Nat.min_eq_left ht]
  refine WK.sub [(0, .int .i64 (n : Int)), (1, .str g), (2, .int .i64 (t : Int))] ?_ ?_
  · intro t v ht
    simp only [lookE_cons] at ht
    by_cases e0 : t = 0
    · rw [if_pos e0] at ht; subst e0; rw [h0]; exact ht
    rw [if_neg e0] at ht
    by_cases e1 : t = 1
    · rw [if_pos e1] at ht; subst e1; rw [h1]; exact ht
    rw [if_neg e1] at ht
    by_cases e2 : t = 2
    · rw [if_pos e2] at ht; subst e2; rw [h2]; exact ht
    rw [if_neg e2] at ht
    cases ht
  unfold c3rest
  refine WK.seq (WK.region ?_)
  refine WR.op rfl rfl rfl rfl ?_
  refine WR.op rfl rfl (r_slice_str (n := t) Tryz.underlying9 rfl rfl (by show t ≤ 5; exact ht)) rfl ?_
  refine WR.op rfl rfl rfl rfl ?_
  refine WR.nil ?_
  refine WK.seq (WK.seq (WK.region ?_))
  refine WR.op rfl rfl rfl rfl ?_
  refine WR.nil ?_
  refine WK.block ?_
  refine grow_loop (tl := List.replicate t 120) hn hg4 (by rw [List.length_replicate]; exact ht) n 0 (by omega) _ rfl rfl rfl ?_ rfl fun env' e0 e1 e2 e8 => ?_
  · show some (AV.str (List.take t [120, 120, 120, 120, 120])) = _
    rw [htl]; simp [gs]
  have hlen : (List.replicate t 120 ++ gs n g).length = t + n * g.length := by rw [List.length_append, List.length_replicate, gs_len]
  have hn4 : n * g.length ≤ 12000 := by
    calc n * g.length ≤ 3000 * 4 := Nat.mul_le_mul hn hg4
      _ = 12000 := by decide
  generalize hS : List.replicate t 120 ++ gs n g = S at *
  refine WK.sub [(0, .int .i64 (n : Int)), (1, .str g), (2, .int .i64 (t : Int)), (8, .str S)] ?_ ?_
  · intro t v ht
    simp only [lookE_cons] at ht
    by_cases f0 : t = 0
    · rw [if_pos f0] at ht; subst f0; rw [e0]; exact ht
    rw [if_neg f0] at ht
    by_cases f1 : t = 1
    · rw [if_pos f1] at ht; subst f1; rw [e1]; exact ht
    rw [if_neg f1] at ht
    by_cases f2 : t = 2
    · rw [if_pos f2] at ht; subst f2; rw [e2]; exact ht
    rw [if_neg f2] at ht
    by_cases f8 : t = 8
    · rw [if_pos f8] at ht; subst f8; rw [e8]; exact ht
    rw [if_neg f8] at ht
    cases ht
  refine WK.seq (WK.region ?_)

  by_cases hS2 : S.length ≤ 2000
  · -- it is not too long
    refine WR.op rfl rfl rfl rfl ?_
    refine WR.call («as» := [.str S]) rfl (.inl rfl) rfl rfl rfl rfl ((cut_short no17 S hS2 st).mono ?_)
    rintro _ _ ⟨rfl, rfl⟩
    refine WR.op rfl rfl rfl rfl ?_
    refine WR.op rfl rfl rfl rfl ?_
    refine WR.op rfl rfl rfl rfl ?_
    refine WR.op rfl rfl rfl rfl ?_
    refine WR.op rfl rfl rfl rfl ?_
    refine WR.nil ?_
    refine WK.seq (WK.seq (WK.region ?_))
    refine WR.op rfl rfl rfl rfl ?_
    refine WR.op rfl rfl (r_len_str Tryz.underlying9 rfl) rfl ?_
    refine WR.op rfl rfl (r_leq (q := true) rfl rfl (by rw [iltb_f (by omega)]; rfl)) rfl ?_
    refine WR.nil ?_
    refine WK.cond rfl (fun _ => WK.seq (WK.region ?_)) (fun h => (by cases h))
    refine WR.op rfl rfl rfl rfl ?_
    refine WR.op rfl rfl rfl rfl ?_
    refine WR.op rfl rfl (r_seql rfl rfl (eqL_self _)) rfl ?_
    refine WR.op rfl rfl rfl rfl ?_
    refine WR.opG rfl rfl rfl rfl rfl ?_
    refine WR.opG rfl rfl rfl rfl rfl ?_
    refine WR.op rfl rfl rfl rfl ?_
    refine WR.op rfl rfl rfl rfl ?_
    refine WR.call (f := 14) («as» := []) rfl (.inr ⟨_, _, rfl, rfl⟩) rfl rfl rfl rfl (CallW.sum (sumL_aw hk) ?_)
    refine WR.op rfl rfl rfl rfl ?_
    refine WR.op rfl rfl rfl rfl ?_
    refine WR.nil ?_
    refine WK.ret ?_
    exact ⟨fun h => (by cases h), fun i h => (by cases h), [.bool true], by rw [res3]; rfl, rfl⟩
  · -- it is cut
    have hS3 : 2000 < S.length := by omega
    have hL : lastAt (S.length + 1) S 0 0 = t + (2000 - t) / g.length * g.length := by
      rw [← hS]
      exact lastAt_all hg1 rfl hdec ht (by omega)
    have hle : (2000 - t) / g.length * g.length ≤ 2000 - t := Nat.div_mul_le_self _ _
    have hmax : lastAt (S.length + 1) S 0 0 ≤ S.length := by omega
    refine WR.op rfl rfl rfl rfl ?_
    refine WR.call («as» := [.str S]) rfl (.inl rfl) rfl rfl rfl rfl ((cut_long no17 S hS3 hmax st).mono ?_)
    rintro _ st5 ⟨rfl, hx5⟩
    refine WR.op rfl rfl rfl rfl ?_
    refine WR.op rfl rfl rfl rfl ?_
    refine WR.op rfl rfl rfl rfl ?_
    refine WR.op rfl rfl rfl rfl ?_
    refine WR.op rfl rfl rfl rfl ?_
    refine WR.nil ?_
    refine WK.seq (WK.seq (WK.region ?_))
    refine WR.op rfl rfl rfl rfl ?_
    refine WR.op rfl rfl (r_len_str Tryz.underlying9 rfl) rfl ?_
    refine WR.op rfl rfl (r_leq (q := false) rfl rfl (by rw [iltb_t (by omega)]; rfl)) rfl ?_
    refine WR.nil ?_
    refine WK.cond rfl (fun h => (by cases h)) (fun _ => WK.skip ?_)
    refine WK.seq (WK.region ?_)
    refine WR.op rfl rfl rfl rfl ?_
    refine WR.op rfl rfl rfl rfl ?_
    refine WR.op rfl rfl (r_arith ⟨by decide, by decide⟩ rfl rfl (sub_nat (a := 2000) (b := t) (by omega) (by omega))) rfl ?_
    refine WR.op rfl rfl rfl rfl ?_
    refine WR.op rfl rfl (r_len_str Tryz.underlying9 rfl) rfl ?_
    refine WR.op rfl rfl (r_arith ⟨by decide, by decide⟩ rfl rfl (quo_nat (by omega) (by omega))) rfl ?_
    refine WR.op rfl rfl rfl rfl ?_
    refine WR.op rfl rfl (r_len_str Tryz.underlying9 rfl) rfl ?_
    refine WR.op rfl rfl (r_arith ⟨by decide, by decide⟩ rfl rfl (mul_nat (by omega))) rfl ?_
    refine WR.op rfl rfl (r_arith ⟨by decide, by decide⟩ rfl rfl (add_nat (by omega))) rfl ?_
    refine WR.op rfl rfl rfl rfl ?_
    refine WR.nil ?_
    refine WK.seq (WK.region ?_)
    refine WR.op rfl rfl rfl rfl ?_
    refine WR.op rfl rfl rfl rfl ?_
    refine WR.opG rfl rfl rfl rfl rfl ?_
    refine WR.opG rfl rfl rfl (r_len_str Tryz.underlying9 rfl) rfl ?_
    refine WR.opG rfl rfl rfl rfl rfl ?_
    refine WR.opG rfl rfl rfl (r_eql (q := true) rfl rfl (by rw [List.length_take, Nat.min_eq_left hmax, hL, ieqb_eq]; simp)) rfl ?_
    refine WR.op rfl rfl rfl rfl ?_
    refine WR.op rfl rfl rfl rfl ?_
    refine WR.opG rfl rfl rfl rfl rfl ?_
    refine WR.opG rfl rfl rfl rfl rfl ?_
    refine WR.opG rfl rfl rfl rfl rfl ?_
    refine WR.opG rfl rfl rfl (r_slice_str (n := t + (2000 - t) / g.length * g.length) Tryz.underlying9 rfl rfl (by omega)) rfl ?_
    refine WR.opG rfl rfl rfl (r_seql (q := true) rfl rfl (by rw [hL]; exact eqL_self _)) rfl ?_
    refine WR.op rfl rfl rfl rfl ?_
    refine WR.op rfl rfl rfl rfl ?_
    refine WR.call (f := 14) («as» := []) rfl (.inr ⟨_, _, rfl, rfl⟩) rfl rfl rfl rfl (CallW.sum (sumL_aw (hk.ext hx5 h64)) ?_)
    refine WR.op rfl rfl rfl rfl ?_
    refine WR.op rfl rfl rfl rfl ?_
    refine WR.nil ?_
    refine WK.ret ?_
    exact ⟨fun h => (by cases h), fun i h => (by cases h), [.bool true], by rw [res3]; rfl, rfl⟩
theorem cuts_true (n t : Int) (g : List UInt8) (st : St) (hk : KnowsG st) (h64 : 64 ≤ st.next) : CallW (CS (sumL 14)) 3 [.int .i64 n, .str g, .int .i64 t] st fun v _ => v = .bool true := by
  refine CallW.enter (no3 [.int .i64 n, .str g, .int .i64 t] st) Tryz.func3 body3 c3_of rfl ?_
  rw [nt3]
  show WK (CS (sumL 14)) 122 none c3 [] _ st CutsPost
  unfold c3
  refine WK.seq (WK.region ?_)
  refine WR.op rfl rfl rfl rfl ?_
  refine WR.nil ?_
  refine WK.seq (WK.seq (WK.region ?_))

  by_cases c1 : n < 0
  ·
    refine WR.op rfl rfl rfl rfl ?_
    refine WR.op rfl rfl (r_lss rfl rfl (iltb_t c1)) rfl ?_
    refine WR.op rfl rfl rfl rfl ?_
    refine WR.off rfl rfl rfl rfl rfl ?_
    refine WR.off rfl rfl rfl rfl rfl ?_
    refine WR.op rfl rfl rfl rfl ?_
    refine WR.op rfl rfl rfl rfl ?_
    refine WR.off rfl rfl rfl rfl rfl ?_
    refine WR.off rfl rfl rfl rfl rfl ?_
    refine WR.off rfl rfl rfl rfl rfl ?_
    refine WR.op rfl rfl rfl rfl ?_
    refine WR.op rfl rfl rfl rfl ?_
    refine WR.off rfl rfl rfl rfl rfl ?_
    refine WR.off rfl rfl rfl rfl rfl ?_
    refine WR.off rfl rfl rfl rfl rfl ?_
    refine WR.op rfl rfl rfl rfl ?_
    refine WR.op rfl rfl rfl rfl ?_
    refine WR.off rfl rfl rfl rfl rfl ?_
    refine WR.off rfl rfl rfl rfl rfl ?_
    refine WR.op rfl rfl rfl rfl ?_
    refine WR.op rfl rfl rfl rfl ?_
    refine WR.off rfl rfl rfl rfl rfl ?_
    refine WR.off rfl rfl rfl rfl rfl ?_
    refine WR.op rfl rfl rfl rfl ?_
    refine WR.nil ?_
    refine WK.cond rfl (fun _ => ?_) (fun h => (by cases h))
    refine WK.seq (WK.region ?_)
    refine WR.call (f := 14) («as» := []) rfl (.inl rfl) rfl rfl rfl rfl (CallW.sum (sumL_aw hk) ?_)
    refine WR.op rfl rfl rfl rfl ?_
    refine WR.nil ?_
    refine WK.ret ?_
    exact ⟨fun h => (by cases h), fun i h => (by cases h), [.bool true], by rw [res3]; rfl, rfl⟩

  by_cases c2 : 3000 < n
  ·
    refine WR.op rfl rfl rfl rfl ?_
    refine WR.op rfl rfl (r_lss rfl rfl (iltb_f c1)) rfl ?_
    refine WR.op rfl rfl rfl rfl ?_
    refine WR.opG rfl rfl rfl rfl rfl ?_
    refine WR.opG rfl rfl rfl (r_gtr rfl rfl (iltb_t c2)) rfl ?_
    refine WR.op rfl rfl rfl rfl ?_
    refine WR.op rfl rfl rfl rfl ?_
    refine WR.off rfl rfl rfl rfl rfl ?_
    refine WR.off rfl rfl rfl rfl rfl ?_
    refine WR.off rfl rfl rfl rfl rfl ?_
    refine WR.op rfl rfl rfl rfl ?_
    refine WR.op rfl rfl rfl rfl ?_
    refine WR.off rfl rfl rfl rfl rfl ?_
    refine WR.off rfl rfl rfl rfl rfl ?_
    refine WR.off rfl rfl rfl rfl rfl ?_
    refine WR.op rfl rfl rfl rfl ?_
    refine WR.op rfl rfl rfl rfl ?_
    refine WR.off rfl rfl rfl rfl rfl ?_
    refine WR.off rfl rfl rfl rfl rfl ?_
    refine WR.op rfl rfl rfl rfl ?_
    refine WR.op rfl rfl rfl rfl ?_
    refine WR.off rfl rfl rfl rfl rfl ?_
    refine WR.off rfl rfl rfl rfl rfl ?_
    refine WR.op rfl rfl rfl rfl ?_
    refine WR.nil ?_
    refine WK.cond rfl (fun _ => ?_) (fun h => (by cases h))
    refine WK.seq (WK.region ?_)
    refine WR.call (f := 14) («as» := []) rfl (.inl rfl) rfl rfl rfl rfl (CallW.sum (sumL_aw hk) ?_)
    refine WR.op rfl rfl rfl rfl ?_
    refine WR.nil ?_
    refine WK.ret ?_
    exact ⟨fun h => (by cases h), fun i h => (by cases h), [.bool true], by rw [res3]; rfl, rfl⟩

  by_cases c3 : (g.length : Int) < 1
  ·
    refine WR.op rfl rfl rfl rfl ?_
    refine WR.op rfl rfl (r_lss rfl rfl (iltb_f c1)) rfl ?_
    refine WR.op rfl rfl rfl rfl ?_
    refine WR.opG rfl rfl rfl rfl rfl ?_
    refine WR.opG rfl rfl rfl (r_gtr rfl rfl (iltb_f c2)) rfl ?_
    refine WR.op rfl rfl rfl rfl ?_
    refine WR.op rfl rfl rfl rfl ?_
    refine WR.opG rfl rfl rfl rfl rfl ?_
    refine WR.opG rfl rfl rfl (r_len_str Tryz.underlying9 rfl) rfl ?_
    refine WR.opG rfl rfl rfl (r_lss rfl rfl (iltb_t c3)) rfl ?_
    refine WR.op rfl rfl rfl rfl ?_
    refine WR.op rfl rfl rfl rfl ?_
    refine WR.off rfl rfl rfl rfl rfl ?_
    refine WR.off rfl rfl rfl rfl rfl ?_
    refine WR.off rfl rfl rfl rfl rfl ?_
    refine WR.op rfl rfl rfl rfl ?_
    refine WR.op rfl rfl rfl rfl ?_
    refine WR.off rfl rfl rfl rfl rfl ?_
    refine WR.off rfl rfl rfl rfl rfl ?_
    refine WR.op rfl rfl rfl rfl ?_
    refine WR.op rfl rfl rfl rfl ?_
    refine WR.off rfl rfl rfl rfl rfl ?_
    refine WR.off rfl rfl rfl rfl rfl ?_
    refine WR.op rfl rfl rfl rfl ?_
    refine WR.nil ?_
    refine WK.cond rfl (fun _ => ?_) (fun h => (by cases h))
    refine WK.seq (WK.region ?_)
    refine WR.call (f := 14) («as» := []) rfl (.inl rfl) rfl rfl rfl rfl (CallW.sum (sumL_aw hk) ?_)
    refine WR.op rfl rfl rfl rfl ?_
    refine WR.nil ?_
    refine WK.ret ?_
    exact ⟨fun h => (by cases h), fun i h => (by cases h), [.bool true], by rw [res3]; rfl, rfl⟩

  by_cases c4 : 4 < (g.length : Int)
  ·
    refine WR.op rfl rfl rfl rfl ?_
    refine WR.op rfl rfl (r_lss rfl rfl (iltb_f c1)) rfl ?_
    refine WR.op rfl rfl rfl rfl ?_
    refine WR.opG rfl rfl rfl rfl rfl ?_
    refine WR.opG rfl rfl rfl (r_gtr rfl rfl (iltb_f c2)) rfl ?_
    refine WR.op rfl rfl rfl rfl ?_
    refine WR.op rfl rfl rfl rfl ?_
    refine WR.opG rfl rfl rfl rfl rfl ?_
    refine WR.opG rfl rfl rfl (r_len_str Tryz.underlying9 rfl) rfl ?_
    refine WR.opG rfl rfl rfl (r_lss rfl rfl (iltb_f c3)) rfl ?_
    refine WR.op rfl rfl rfl rfl ?_
    refine WR.op rfl rfl rfl rfl ?_
    refine WR.opG rfl rfl rfl rfl rfl ?_
    refine WR.opG rfl rfl rfl (r_len_str Tryz.underlying9 rfl) rfl ?_
    refine WR.opG rfl rfl rfl (r_gtr rfl rfl (iltb_t c4)) rfl ?_
    refine WR.op rfl rfl rfl rfl ?_
    refine WR.op rfl rfl rfl rfl ?_
    refine WR.off rfl rfl rfl rfl rfl ?_
    refine WR.off rfl rfl rfl rfl rfl ?_
    refine WR.op rfl rfl rfl rfl ?_
    refine WR.op rfl rfl rfl rfl ?_
    refine WR.off rfl rfl rfl rfl rfl ?_
    refine WR.off rfl rfl rfl rfl rfl ?_
    refine WR.op rfl rfl rfl rfl ?_
    refine WR.nil ?_
    refine WK.cond rfl (fun _ => ?_) (fun h => (by cases h))
    refine WK.seq (WK.region ?_)
    refine WR.call (f := 14) («as» := []) rfl (.inl rfl) rfl rfl rfl rfl (CallW.sum (sumL_aw hk) ?_)
    refine WR.op rfl rfl rfl rfl ?_
    refine WR.nil ?_
    refine WK.ret ?_
    exact ⟨fun h => (by cases h), fun i h => (by cases h), [.bool true], by rw [res3]; rfl, rfl⟩

  by_cases c5 : t < 0
  ·
    refine WR.op rfl rfl rfl rfl ?_
    refine WR.op rfl rfl (r_lss rfl rfl (iltb_f c1)) rfl ?_
    refine WR.op rfl rfl rfl rfl ?_
    refine WR.opG rfl rfl rfl rfl rfl ?_
    refine WR.opG rfl rfl rfl (r_gtr rfl rfl (iltb_f c2)) rfl ?_
    refine WR.op rfl rfl rfl rfl ?_
    refine WR.op rfl rfl rfl rfl ?_
    refine WR.opG rfl rfl rfl rfl rfl ?_
    refine WR.opG rfl rfl rfl (r_len_str Tryz.underlying9 rfl) rfl ?_
    refine WR.opG rfl rfl rfl (r_lss rfl rfl (iltb_f c3)) rfl ?_
    refine WR.op rfl rfl rfl rfl ?_
    refine WR.op rfl rfl rfl rfl ?_
    refine WR.opG rfl rfl rfl rfl rfl ?_
    refine WR.opG rfl rfl rfl (r_len_str Tryz.underlying9 rfl) rfl ?_
    refine WR.opG rfl rfl rfl (r_gtr rfl rfl (iltb_f c4)) rfl ?_
    refine WR.op rfl rfl rfl rfl ?_
    refine WR.op rfl rfl rfl rfl ?_
    refine WR.opG rfl rfl rfl rfl rfl ?_
    refine WR.opG rfl rfl rfl (r_lss rfl rfl (iltb_t c5)) rfl ?_
    refine WR.op rfl rfl rfl rfl ?_
    refine WR.op rfl rfl rfl rfl ?_
    refine WR.off rfl rfl rfl rfl rfl ?_
    refine WR.off rfl rfl rfl rfl rfl ?_
    refine WR.op rfl rfl rfl rfl ?_
    refine WR.nil ?_
    refine WK.cond rfl (fun _ => ?_) (fun h => (by cases h))
    refine WK.seq (WK.region ?_)
    refine WR.call (f := 14) («as» := []) rfl (.inl rfl) rfl rfl rfl rfl (CallW.sum (sumL_aw hk) ?_)
    refine WR.op rfl rfl rfl rfl ?_
    refine WR.nil ?_
    refine WK.ret ?_
    exact ⟨fun h => (by cases h), fun i h => (by cases h), [.bool true], by rw [res3]; rfl, rfl⟩

  by_cases c6 : 5 < t
  ·
    refine WR.op rfl rfl rfl rfl ?_
    refine WR.op rfl rfl (r_lss rfl rfl (iltb_f c1)) rfl ?_
    refine WR.op rfl rfl rfl rfl ?_
    refine WR.opG rfl rfl rfl rfl rfl ?_
    refine WR.opG rfl rfl rfl (r_gtr rfl rfl (iltb_f c2)) rfl ?_
    refine WR.op rfl rfl rfl rfl ?_
    refine WR.op rfl rfl rfl rfl ?_
    refine WR.opG rfl rfl rfl rfl rfl ?_
    refine WR.opG rfl rfl rfl (r_len_str Tryz.underlying9 rfl) rfl ?_
    refine WR.opG rfl rfl rfl (r_lss rfl rfl (iltb_f c3)) rfl ?_
    refine WR.op rfl rfl rfl rfl ?_
    refine WR.op rfl rfl rfl rfl ?_
    refine WR.opG rfl rfl rfl rfl rfl ?_
    refine WR.opG rfl rfl rfl (r_len_str Tryz.underlying9 rfl) rfl ?_
    refine WR.opG rfl rfl rfl (r_gtr rfl rfl (iltb_f c4)) rfl ?_
    refine WR.op rfl rfl rfl rfl ?_
    refine WR.op rfl rfl rfl rfl ?_
    refine WR.opG rfl rfl rfl rfl rfl ?_
    refine WR.opG rfl rfl rfl (r_lss rfl rfl (iltb_f c5)) rfl ?_
    refine WR.op rfl rfl rfl rfl ?_
    refine WR.op rfl rfl rfl rfl ?_
    refine WR.opG rfl rfl rfl rfl rfl ?_
    refine WR.opG rfl rfl rfl (r_gtr rfl rfl (iltb_t c6)) rfl ?_
    refine WR.op rfl rfl rfl rfl ?_
    refine WR.nil ?_
    refine WK.cond rfl (fun _ => ?_) (fun h => (by cases h))
    refine WK.seq (WK.region ?_)
    refine WR.call (f := 14) («as» := []) rfl (.inl rfl) rfl rfl rfl rfl (CallW.sum (sumL_aw hk) ?_)
    refine WR.op rfl rfl rfl rfl ?_
    refine WR.nil ?_
    refine WK.ret ?_
    exact ⟨fun h => (by cases h), fun i h => (by cases h), [.bool true], by rw [res3]; rfl, rfl⟩

  refine WR.op rfl rfl rfl rfl ?_
  refine WR.op rfl rfl (r_lss rfl rfl (iltb_f c1)) rfl ?_
  refine WR.op rfl rfl rfl rfl ?_
  refine WR.opG rfl rfl rfl rfl rfl ?_
  refine WR.opG rfl rfl rfl (r_gtr rfl rfl (iltb_f c2)) rfl ?_
  refine WR.op rfl rfl rfl rfl ?_
  refine WR.op rfl rfl rfl rfl ?_
  refine WR.opG rfl rfl rfl rfl rfl ?_
  refine WR.opG rfl rfl rfl (r_len_str Tryz.underlying9 rfl) rfl ?_
  refine WR.opG rfl rfl rfl (r_lss rfl rfl (iltb_f c3)) rfl ?_
  refine WR.op rfl rfl rfl rfl ?_
  refine WR.op rfl rfl rfl rfl ?_
  refine WR.opG rfl rfl rfl rfl rfl ?_
  refine WR.opG rfl rfl rfl (r_len_str Tryz.underlying9 rfl) rfl ?_
  refine WR.opG rfl rfl rfl (r_gtr rfl rfl (iltb_f c4)) rfl ?_
  refine WR.op rfl rfl rfl rfl ?_
  refine WR.op rfl rfl rfl rfl ?_
  refine WR.opG rfl rfl rfl rfl rfl ?_
  refine WR.opG rfl rfl rfl (r_lss rfl rfl (iltb_f c5)) rfl ?_
  refine WR.op rfl rfl rfl rfl ?_
  refine WR.op rfl rfl rfl rfl ?_
  refine WR.opG rfl rfl rfl rfl rfl ?_
  refine WR.opG rfl rfl rfl (r_gtr rfl rfl (iltb_f c6)) rfl ?_
  refine WR.op rfl rfl rfl rfl ?_
  refine WR.nil ?_
  refine WK.cond rfl (fun h => (by cases h)) (fun _ => WK.skip ?_)
  refine WK.seq (WK.region ?_)
  refine WR.op rfl rfl rfl rfl ?_
  refine WR.nil ?_
  refine WK.seq (WK.seq (WK.region ?_))
  refine WR.op rfl rfl rfl rfl ?_
  refine WR.op rfl rfl (r_range Tryz.underlying9 rfl) rfl ?_
  refine WR.nil ?_
  refine WK.block ?_
  refine count_loop (b := st.next) (st := st) (n := n) (t := t) (g := g) (Nat.le_refl _) (g.length + 1) g 0 0 _ (by omega) (by omega) (by rw [push_get, if_pos rfl]) ((Ext.refl st).push _) _ rfl rfl rfl rfl rfl fun env' st2 hx2 e0 e1 e2 e7 => ?_
  have hk2 := hk.ext hx2 h64
  have h642 : 64 ≤ st2.next := Nat.le_trans h64 hx2.nx
  rw [Nat.zero_add] at e7
  generalize hcn : cnt (g.length + 1) g = cn at e7
  obtain ⟨nn, rfl⟩ : ∃ k : Nat, n = k := ⟨n.toNat, by omega⟩
  obtain ⟨tt, rfl⟩ : ∃ k : Nat, t = k := ⟨t.toNat, by omega⟩
  have hg1 : 1 ≤ g.length := by omega
  have hg4 : g.length ≤ 4 := by omega
  refine WK.sub [(0, .int .i64 (nn : Int)), (1, .str g), (2, .int .i64 (tt : Int)), (7, .int .i64 (cn : Int))] ?_ ?_
  · intro t v ht
    simp only [lookE_cons] at ht
    by_cases f0 : t = 0
    · rw [if_pos f0] at ht; subst f0; rw [e0]; exact ht
    rw [if_neg f0] at ht
    by_cases f1 : t = 1
    · rw [if_pos f1] at ht; subst f1; rw [e1]; exact ht
    rw [if_neg f1] at ht
    by_cases f2 : t = 2
    · rw [if_pos f2] at ht; subst f2; rw [e2]; exact ht
    rw [if_neg f2] at ht
    by_cases f7 : t = 7
    · rw [if_pos f7] at ht; subst f7; rw [e7]; exact ht
    rw [if_neg f7] at ht
    cases ht
  refine WK.seq (WK.seq (WK.region ?_))
  by_cases k1 : cn = 1

  · subst k1
    obtain ⟨c, r, hcr⟩ : ∃ c r, g = c :: r := by
      cases g with
      | nil => simp at hg1
      | cons c r => exact ⟨c, r, rfl⟩
    have hwd : (dec8 g).2 = g.length := by
      rw [hcr] at hcn ⊢
      exact cnt_one (by omega) hcn
    cases q1 : eqL g [239, 191, 189] with
    | true =>
      refine WR.op rfl rfl rfl rfl ?_
      refine WR.op rfl rfl (r_neq (q := false) rfl rfl (by rw [ieqb_eq]; rfl)) rfl ?_
      refine WR.op rfl rfl rfl rfl ?_
      refine WR.opG rfl rfl rfl rfl rfl ?_
      refine WR.opG rfl rfl rfl (r_seql rfl rfl q1) rfl ?_
      refine WR.op rfl rfl rfl rfl ?_
      refine WR.op rfl rfl rfl rfl ?_
      refine WR.off rfl rfl rfl rfl rfl ?_
      refine WR.off rfl rfl rfl rfl rfl ?_
      refine WR.off rfl rfl rfl rfl rfl ?_
      refine WR.off rfl rfl rfl rfl rfl ?_
      refine WR.offU rfl rfl rfl rfl ?_
      refine WR.offU rfl rfl rfl rfl ?_
      refine WR.offU rfl rfl rfl rfl ?_
      refine WR.offU rfl rfl rfl rfl ?_
      refine WR.offU rfl rfl rfl rfl ?_
      refine WR.offU rfl rfl rfl rfl ?_
      refine WR.offU rfl rfl rfl rfl ?_
      refine WR.offU rfl rfl rfl rfl ?_
      refine WR.offU rfl rfl rfl rfl ?_
      refine WR.off rfl rfl rfl rfl rfl ?_
      refine WR.op rfl rfl rfl rfl ?_
      refine WR.nil ?_
      refine WK.cond rfl (fun _ => ?_) (fun h => (by cases h))
      refine WK.seq (WK.region ?_)
      refine WR.call (f := 14) («as» := []) rfl (.inl rfl) rfl rfl rfl rfl (CallW.sum (sumL_aw hk2) ?_)
      refine WR.op rfl rfl rfl rfl ?_
      refine WR.nil ?_
      refine WK.ret ?_
      exact ⟨fun h => (by cases h), fun i h => (by cases h), [.bool true], by rw [res3]; rfl, rfl⟩
    | false =>
      by_cases k2 : 1 < g.length
      · have hdec : ∀ k, (dec8 (g ++ gs k g)).2 = g.length := fun k => by
          rw [dec8_app (c := (dec8 g).1) (by omega) (by rw [← hwd])]
        have hxb := (Ext.refl st2).new 5 1 (byteEls (97 :: g)) (97 :: g).length 2
        have hrow := stNew_row st2 5 1 (byteEls (97 :: g)) (97 :: g).length 2

        refine WR.op rfl rfl rfl rfl ?_
        refine WR.op rfl rfl (r_neq (q := false) rfl rfl (by rw [ieqb_eq]; rfl)) rfl ?_
        refine WR.op rfl rfl rfl rfl ?_
        refine WR.opG rfl rfl rfl rfl rfl ?_
        refine WR.opG rfl rfl rfl (r_seql rfl rfl q1) rfl ?_
        refine WR.op rfl rfl rfl rfl ?_
        refine WR.op rfl rfl rfl rfl ?_
        refine WR.opG rfl rfl rfl rfl rfl ?_
        refine WR.opG rfl rfl rfl (r_len_str Tryz.underlying9 rfl) rfl ?_
        refine WR.opG rfl rfl rfl (r_gtr rfl rfl (iltb_t (by omega))) rfl ?_
        refine WR.opG rfl rfl rfl rfl rfl ?_
        refine WR.opG rfl rfl rfl rfl rfl ?_
        refine WR.opG rfl rfl rfl (r_cat rfl rfl (by simp only [List.length_cons, List.length_nil]; omega)) rfl ?_
        refine WR.opG rfl rfl rfl (r_bytes (s := 97 :: g) Tryz.underlying9 Tryz.underlying26 Tryz.underlying5 rfl) rfl ?_
        refine WR.call («as» := [.slc st2.next 0 (97 :: g).length none]) rfl (.inr ⟨_, _, rfl, rfl⟩) rfl rfl rfl rfl ((read_ok no16 g (dec8 g).1 (by rw [hcr]; simp) (by rw [← hwd]) _ st2.next st2.next (Nat.lt_succ_self _) (Nat.lt_succ_self _) hrow).mono ?_)
        rintro v3 st3 ⟨hx3, f3, r3, hrow3⟩
        obtain ⟨m3, rfl, hm3, hf3, hrow3⟩ : ∃ m, v3 = .slc m 0 2 none ∧ m < st3.next ∧ f3 < st3.next ∧ RowAt st3 m f3 21 1 [[.int .i32 97], [.int .i32 r3]] := by
          rcases hrow3 with ⟨_, h⟩ | h
          · cases h
          · exact h
        have hx23 := hxb.trans hx3
        refine WR.opG rfl rfl rfl (r_idx (n := 1) Tryz.underlying24 sz21 rfl rfl (by decide)) rfl ?_
        refine WR.opG rfl rfl rfl (r_load1 agg21 rfl (hrow3.load1 (i := 1) rfl)) rfl ?_
        refine WR.call («as» := [.int .i32 r3]) rfl (.inr ⟨_, _, rfl, rfl⟩) rfl rfl rfl rfl ((put_ok no15 r3 st3).mono ?_)
        rintro _ st4 ⟨rfl, hx4⟩
        have hx24 := hx23.trans hx4
        refine WR.opG rfl rfl rfl rfl rfl ?_
        refine WR.opG rfl rfl rfl (r_sneq rfl rfl rfl) rfl ?_
        refine WR.opG rfl rfl rfl rfl rfl ?_
        refine WR.op rfl rfl rfl rfl ?_
        refine WR.nil ?_
        refine WK.cond rfl (fun _ => ?_) (fun _ => WK.skip ?_)
        ·
          refine WK.seq (WK.region ?_)
          refine WR.call (f := 14) («as» := []) rfl (.inl rfl) rfl rfl rfl rfl (CallW.sum (sumL_aw (hk2.ext hx24 h642)) ?_)
          refine WR.op rfl rfl rfl rfl ?_
          refine WR.nil ?_
          refine WK.ret ?_
          exact ⟨fun h => (by cases h), fun i h => (by cases h), [.bool true], by rw [res3]; rfl, rfl⟩
        · exact cuts_rest (by omega) (by omega) hg1 hg4 hdec (hk2.ext hx24 h642) (Nat.le_trans h642 hx24.nx) rfl rfl rfl

      · have hr : r = [] := by
          cases r with
          | nil => rfl
          | cons x r => rw [hcr] at k2; simp at k2
        have hdec : ∀ k, (dec8 (g ++ gs k g)).2 = g.length := fun k => by
          rw [hcr, hr]
          exact dec8_one c k
        refine WR.op rfl rfl rfl rfl ?_
        refine WR.op rfl rfl (r_neq (q := false) rfl rfl (by rw [ieqb_eq]; rfl)) rfl ?_
        refine WR.op rfl rfl rfl rfl ?_
        refine WR.opG rfl rfl rfl rfl rfl ?_
        refine WR.opG rfl rfl rfl (r_seql rfl rfl q1) rfl ?_
        refine WR.op rfl rfl rfl rfl ?_
        refine WR.op rfl rfl rfl rfl ?_
        refine WR.opG rfl rfl rfl rfl rfl ?_
        refine WR.opG rfl rfl rfl (r_len_str Tryz.underlying9 rfl) rfl ?_
        refine WR.opG rfl rfl rfl (r_gtr rfl rfl (iltb_f (by omega))) rfl ?_
        refine WR.opG rfl rfl rfl rfl rfl ?_
        refine WR.off rfl rfl rfl rfl rfl ?_
        refine WR.off rfl rfl rfl rfl rfl ?_
        refine WR.off rfl rfl rfl rfl rfl ?_
        refine WR.off rfl rfl rfl rfl rfl ?_
        refine WR.off rfl rfl rfl rfl rfl ?_
        refine WR.off rfl rfl rfl rfl rfl ?_
        refine WR.off rfl rfl rfl rfl rfl ?_
        refine WR.off rfl rfl rfl rfl rfl ?_
        refine WR.off rfl rfl rfl rfl rfl ?_
        refine WR.opG rfl rfl rfl rfl rfl ?_
        refine WR.op rfl rfl rfl rfl ?_
        refine WR.nil ?_
        refine WK.cond rfl (fun h => (by cases h)) (fun _ => WK.skip ?_)
        exact cuts_rest (by omega) (by omega) hg1 hg4 hdec hk2 h642 rfl rfl rfl

  ·
    refine WR.op rfl rfl rfl rfl ?_
    refine WR.op rfl rfl (r_neq (q := true) rfl rfl (by rw [ieqb_eq]; simp; omega)) rfl ?_
    refine WR.op rfl rfl rfl rfl ?_
    refine WR.off rfl rfl rfl rfl rfl ?_
    refine WR.off rfl rfl rfl rfl rfl ?_
    refine WR.op rfl rfl rfl rfl ?_
    refine WR.op rfl rfl rfl rfl ?_
    refine WR.off rfl rfl rfl rfl rfl ?_
    refine WR.off rfl rfl rfl rfl rfl ?_
    refine WR.off rfl rfl rfl rfl rfl ?_
    refine WR.off rfl rfl rfl rfl rfl ?_
    refine WR.offU rfl rfl rfl rfl ?_
    refine WR.offU rfl rfl rfl rfl ?_
    refine WR.offU rfl rfl rfl rfl ?_
    refine WR.offU rfl rfl rfl rfl ?_
    refine WR.offU rfl rfl rfl rfl ?_
    refine WR.offU rfl rfl rfl rfl ?_
    refine WR.offU rfl rfl rfl rfl ?_
    refine WR.offU rfl rfl rfl rfl ?_
    refine WR.offU rfl rfl rfl rfl ?_
    refine WR.off rfl rfl rfl rfl rfl ?_
    refine WR.op rfl rfl rfl rfl ?_
    refine WR.nil ?_
    refine WK.cond rfl (fun _ => ?_) (fun h => (by cases h))
    refine WK.seq (WK.region ?_)
    refine WR.call (f := 14) («as» := []) rfl (.inl rfl) rfl rfl rfl rfl (CallW.sum (sumL_aw hk2) ?_)
    refine WR.op rfl rfl rfl rfl ?_
    refine WR.nil ?_
    refine WK.ret ?_
    exact ⟨fun h => (by cases h), fun i h => (by cases h), [.bool true], by rw [res3]; rfl, rfl⟩

end Go.Proofs.Tz
