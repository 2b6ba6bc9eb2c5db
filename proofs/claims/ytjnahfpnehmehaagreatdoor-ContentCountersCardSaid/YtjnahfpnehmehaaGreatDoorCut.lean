/- content.Cut, at every text. -/
import Derived.Test.YtjnahfpnehmehaaGreatDoorAeG
import Derived.Test.YtjnahfpnehmehaaGreatDoorTz1
namespace Go.Proofs.Tz
open Go Go.AE Go.RowKit Go.Proofs
set_option maxRecDepth 100000
/-- fleuron/content.Cut -/
def c17 : SC := (.seq (.region [⟨.assign (.const (.string ⟨#[]⟩)), some 2, none⟩, ⟨.assign (.const (.bool false)), some 3, none⟩])
  (.seq (.seq (.region [⟨.move (.tmp 0), some 6, none⟩, ⟨.call ⟨.builtin .len, #[(.tmp 6)], #[9]⟩, some 7, none⟩, ⟨.binOp .leq 3 (.tmp 7) (.const (.int .i64 2000)) 3, some 8, none⟩])
  (.cond (.tmp 8) (.seq (.region [⟨.move (.tmp 0), some 9, none⟩, ⟨.assign (.tmp 9), some 2, none⟩, ⟨.assign (.const (.bool false)), some 3, none⟩])
  .ret) .skip))
  (.seq (.region [⟨.assign (.const (.int .i64 0)), some 4, none⟩])
  (.seq (.seq (.region [⟨.move (.tmp 0), some 10, none⟩, ⟨.range 9 (.tmp 10), some 11, none⟩])
  (.block 0 (.loop (.seq (.region [⟨.next (.tmp 11) true, some 12, none⟩, ⟨.extract (.tmp 12) 0, some 13, none⟩])
  (.seq (.cond (.tmp 13) .skip (.exit 0))
  (.block 1 (.seq (.region [⟨.extract (.tmp 12) 1, some 14, none⟩, ⟨.assign (.tmp 14), some 5, none⟩])
  (.seq (.seq (.region [⟨.move (.tmp 5), some 15, none⟩, ⟨.binOp .gtr 3 (.tmp 15) (.const (.int .i64 2000)) 3, some 16, none⟩])
  (.cond (.tmp 16) (.exit 0) .skip))
  (.region [⟨.move (.tmp 5), some 17, none⟩, ⟨.assign (.tmp 17), some 4, none⟩])))))))))
  (.seq (.region [⟨.move (.tmp 0), some 18, none⟩, ⟨.move (.tmp 4), some 19, none⟩, ⟨.slice 9 (.tmp 18) none (some (.tmp 19)) none, some 20, none⟩, ⟨.assign (.tmp 20), some 2, none⟩, ⟨.assign (.const (.bool true)), some 3, none⟩])
  .ret)))))
theorem c17_of : SC.of Tryz.f17.body.get! = c17 := by kernel_rfl
variable {sum : FuncId → List AV → St → Option (AV × St)}
theorem body17 : Tryz.f17.body = some (Tryz.f17.body.get!) := by kernel_rfl
theorem nt17 : Tryz.f17.ntmps = 21 := by kernel_rfl
theorem res17 : Tryz.f17.results.toList = [.tmp 2, .tmp 3] := by kernel_rfl
theorem cut_short (hs : ∀ xs st, sum 17 xs st = none) (s : List UInt8) (h : s.length ≤ 2000) (st : St) : CallW (CS sum) 17 [.str s] st fun v st' => v = .tup [.str s, .bool false] ∧ st' = st := by
  refine CallW.enter (hs _ _) Tryz.func17 body17 c17_of rfl ?_
  rw [nt17]
  unfold c17
  refine WK.seq (WK.region ?_)
  refine WR.op rfl rfl rfl rfl ?_
  refine WR.op rfl rfl rfl rfl ?_
  refine WR.nil ?_
  refine WK.seq (WK.seq (WK.region ?_))
  refine WR.op rfl rfl rfl rfl ?_
  refine WR.op rfl rfl (r_len_str Tryz.underlying9 rfl) rfl ?_
  refine WR.op rfl rfl rfl rfl ?_
  refine WR.nil ?_
  refine WK.cond rfl (fun _ => ?_) (fun hc => ?_)
  · refine WK.seq (WK.region ?_)
    refine WR.op rfl rfl rfl rfl ?_
    refine WR.op rfl rfl rfl rfl ?_
    refine WR.op rfl rfl rfl rfl ?_
    refine WR.nil ?_
    refine WK.ret ?_
    exact ⟨fun h => (by cases h), fun i h => (by cases h), [.str s, .bool false], by rw [res17]; rfl, rfl, rfl⟩
  · exfalso
    rw [iltb_eq] at hc
    simp only [Bool.not_eq_false', decide_eq_true_eq] at hc
    omega
/-- The last sign's beginning that is not behind 2000. -/
noncomputable def lastAt : Nat → List UInt8 → Nat → Nat → Nat
  | 0, _, _, to => to
  | _ + 1, [], _, to => to
  | m + 1, c :: r, pos, to => if 2000 < pos then to else lastAt m ((c :: r).drop (dec8 (c :: r)).2) (pos + (dec8 (c :: r)).2) pos
/-- The loop of content.Cut. -/
def c17loop : SC := (.loop (.seq (.region [⟨.next (.tmp 11) true, some 12, none⟩, ⟨.extract (.tmp 12) 0, some 13, none⟩])
  (.seq (.cond (.tmp 13) .skip (.exit 0))
  (.block 1 (.seq (.region [⟨.extract (.tmp 12) 1, some 14, none⟩, ⟨.assign (.tmp 14), some 5, none⟩])
  (.seq (.seq (.region [⟨.move (.tmp 5), some 15, none⟩, ⟨.binOp .gtr 3 (.tmp 15) (.const (.int .i64 2000)) 3, some 16, none⟩])
  (.cond (.tmp 16) (.exit 0) .skip))
  (.region [⟨.move (.tmp 5), some 17, none⟩, ⟨.assign (.tmp 17), some 4, none⟩])))))))
theorem cut_loop {s : List UInt8} {b : Nat} {st : St} (hb : st.next ≤ b) {ks : List Kont} {Q : Post3} : ∀ (m : Nat) (rest : List UInt8) (pos to : Nat) (st1 : St), rest.length < m → st1.heap.get b = some (.siter rest pos) → Ext st st1 → ∀ env, lookE 0 env = some (.str s) → lookE 11 env = some (.ptr b 0) → lookE 4 env = some (.int .i64 (to : Int)) →
    (∀ env' st2, Ext st st2 → lookE 0 env' = some (.str s) → lookE 4 env' = some (.int .i64 ((lastAt m rest pos to : Nat) : Int)) → after (CS sum) 21 none ks Q .normal env' st2) →
    WK (CS sum) 21 none c17loop (.block 0 :: ks) env st1 Q := by
  intro m
  induction m with
  | zero => intro rest pos to st1 h; omega
  | succ m ih =>
    intro rest pos to st1 hm hget hext env h0 h11 h4 hfin
    refine WK.sub [(0, .str s), (11, .ptr b 0), (4, .int .i64 (to : Int))] ?_ ?_
    · intro t v ht
      simp only [lookE_cons] at ht
      split at ht
      · rename_i e; subst e; rw [h0]; exact ht
      · split at ht
        · rename_i e; subst e; rw [h11]; exact ht
        · split at ht
          · rename_i e; subst e; rw [h4]; exact ht
          · cases ht
    unfold c17loop
    refine WK.loop (WK.seq (WK.region ?_))
    cases rest with
    | nil =>
      refine WR.op rfl rfl (r_next_end rfl hget) rfl ?_
      refine WR.op rfl rfl rfl rfl ?_
      refine WR.nil ?_
      refine WK.seq (WK.cond rfl (fun h => (by cases h)) (fun _ => WK.exit ?_))
      exact after.seq_exit (after.seq_exit (after.exit (hfin _ st1 hext rfl rfl)))
    | cons c r =>
      obtain ⟨w1, w2⟩ := dec8_wd c r
      have hset : (st1.setObj b (.siter ((c :: r).drop (dec8 (c :: r)).2) (Nat.add pos (dec8 (c :: r)).2))).heap.get b = some (.siter ((c :: r).drop (dec8 (c :: r)).2) (pos + (dec8 (c :: r)).2)) := by rw [set_get, if_pos rfl]; rfl
      refine WR.op rfl rfl (r_next rfl hget) rfl ?_
      refine WR.op rfl rfl rfl rfl ?_
      refine WR.nil ?_
      refine WK.seq (WK.cond rfl (fun _ => WK.skip ?_) (fun h => (by cases h)))
      refine WK.block (WK.seq (WK.region ?_))
      refine WR.op rfl rfl rfl rfl ?_
      refine WR.op rfl rfl rfl rfl ?_
      refine WR.nil ?_
      refine WK.seq (WK.seq (WK.region ?_))
      refine WR.op rfl rfl rfl rfl ?_
      refine WR.op rfl rfl rfl rfl ?_
      refine WR.nil ?_
      refine WK.cond rfl (fun hc => WK.exit ?_) (fun hc => WK.skip ?_)
      · rw [iltb_eq, decide_eq_true_eq] at hc
        refine after.seq_exit (after.exit_ne (by decide) (after.seq_exit (after.exit (hfin _ _ (hext.set hb _) rfl ?_))))
        show some (AV.int .i64 (to : Int)) = _
        have hp : 2000 < pos := by simp only [Int.ofNat_eq_natCast] at hc; omega
        rw [lastAt, if_pos hp]
      · have hp : ¬ 2000 < pos := by
          intro h
          rw [iltb_eq, decide_eq_false_iff_not] at hc
          exact hc (by simp only [Int.ofNat_eq_natCast]; omega)
        refine WK.region ?_
        refine WR.op rfl rfl rfl rfl ?_
        refine WR.op rfl rfl rfl rfl ?_
        refine WR.nil ?_
        refine ih _ (pos + (dec8 (c :: r)).2) pos _ (by simp only [List.length_drop, List.length_cons] at *; omega) hset (hext.set hb _) _ rfl rfl rfl fun env' st2 e1 e2 e3 => hfin env' st2 e1 e2 ?_
        rw [e3, lastAt, if_neg hp]
theorem cut_long (hs : ∀ xs st, sum 17 xs st = none) (s : List UInt8) (h : 2000 < s.length) (hmax : lastAt (s.length + 1) s 0 0 ≤ s.length) (st : St) :
    CallW (CS sum) 17 [.str s] st fun v st' => v = .tup [.str (s.take (lastAt (s.length + 1) s 0 0)), .bool true] ∧ Ext st st' := by
  refine CallW.enter (hs _ _) Tryz.func17 body17 c17_of rfl ?_
  rw [nt17]
  unfold c17
  refine WK.seq (WK.region ?_)
  refine WR.op rfl rfl rfl rfl ?_
  refine WR.op rfl rfl rfl rfl ?_
  refine WR.nil ?_
  refine WK.seq (WK.seq (WK.region ?_))
  refine WR.op rfl rfl rfl rfl ?_
  refine WR.op rfl rfl (r_len_str Tryz.underlying9 rfl) rfl ?_
  refine WR.op rfl rfl rfl rfl ?_
  refine WR.nil ?_
  refine WK.cond rfl (fun hc => ?_) (fun _ => WK.skip ?_)
  · exfalso
    rw [iltb_eq] at hc
    simp only [Bool.not_eq_true', decide_eq_false_iff_not] at hc
    omega
  · refine WK.seq (WK.region ?_)
    refine WR.op rfl rfl rfl rfl ?_
    refine WR.nil ?_
    refine WK.seq (WK.seq (WK.region ?_))
    refine WR.op rfl rfl rfl rfl ?_
    refine WR.op rfl rfl (r_range Tryz.underlying9 rfl) rfl ?_
    refine WR.nil ?_
    refine WK.block ?_
    refine cut_loop (s := s) (b := st.next) (st := st) (Nat.le_refl _) (s.length + 1) s 0 0 _ (by omega) (by rw [push_get, if_pos rfl]) ((Ext.refl st).push _) _ rfl rfl rfl fun env' st2 e1 e2 e3 => ?_
    refine WK.seq (WK.region ?_)
    refine WR.op rfl rfl (v := .str s) (st' := st2) ?_ rfl ?_
    · simp only [aopR, evE, e2, bnd_some]
    refine WR.op rfl rfl (v := .int .i64 ((lastAt (s.length + 1) s 0 0 : Nat) : Int)) (st' := st2) ?_ rfl ?_
    · simp only [aopR, evE, lookE_cons, e3]; rfl
    refine WR.op rfl rfl (r_slice_str Tryz.underlying9 rfl rfl hmax) rfl ?_
    refine WR.op rfl rfl rfl rfl ?_
    refine WR.op rfl rfl rfl rfl ?_
    refine WR.nil ?_
    refine WK.ret ?_
    exact ⟨fun h => (by cases h), fun i h => (by cases h), [.str (s.take (lastAt (s.length + 1) s 0 0)), .bool true], by rw [res17]; rfl, rfl, e1⟩
end Go.Proofs.Tz
