/- A counter's place among others: the last one of a name; numbers rounded. -/
import Derived.Test.YtjnahfpnehmehaaGreatDoorRegC
import Derived.Test.YtjnahfpnehmehaaGreatDoorReg15
namespace Go.Proofs.Tz
open Go Go.AE Go.RowKit Go.Proofs
set_option maxRecDepth 100000
variable {sum : FuncId → List AV → St → Option (AV × St)}
theorem un51 : und Tryz.prog 51 = some (.slice 49) := by kernel_rfl
theorem sz49 : sizeT Tryz.prog 49 = some 4 := by kernel_rfl
theorem sz51 : sizeT Tryz.prog 51 = some 1 := by kernel_rfl
theorem agg49 : isAggT Tryz.prog 49 = some true := by kernel_rfl
theorem agg51 : isAggT Tryz.prog 51 = some false := by kernel_rfl
theorem fo49_0 : fieldOff Tryz.prog 49 0 = some 0 := by kernel_rfl
theorem fo49_2 : fieldOff Tryz.prog 49 2 = some 2 := by kernel_rfl
theorem ze49 : zeroT Tryz.prog 49 = some (.agg [.str [], .int .i64 0, .int .i64 0, .bool false]) := by kernel_rfl
/-- A counter. -/
structure Ctr where
  name : List UInt8
  of : Int
  n : Int
  rev : Bool
def Ctr.cells (c : Ctr) : List AV := [.str c.name, .int .i64 c.of, .int .i64 c.n, .bool c.rev]
/-- The last place of a name among the first m. -/
noncomputable def lastN (cs : List Ctr) (nm : List UInt8) : Nat → Int
  | 0 => -1
  | m + 1 => if eqL ((cs.getD m ⟨[], 0, 0, false⟩).name) nm = true then (m : Int) else lastN cs nm m
theorem lastN_lt (cs : List Ctr) (nm : List UInt8) : ∀ m, lastN cs nm m < (m : Int) ∧ -1 ≤ lastN cs nm m
  | 0 => by rw [lastN]; omega
  | m + 1 => by
    rw [lastN]
    have := lastN_lt cs nm m
    split <;> omega
/-- fleuron/fleuronalike.Round -/
def c22 : SC := (.seq (.region [⟨.assign (.const (.int .i64 0)), some 4, none⟩])
  (.seq (.region [⟨.move (.tmp 0), some 5, none⟩, ⟨.move (.tmp 1), some 6, none⟩, ⟨.binOp .rem 3 (.tmp 5) (.tmp 6) 3, some 7, none⟩, ⟨.move (.tmp 1), some 8, none⟩, ⟨.binOp .add 3 (.tmp 7) (.tmp 8) 3, some 9, none⟩, ⟨.move (.tmp 1), some 10, none⟩, ⟨.binOp .rem 3 (.tmp 9) (.tmp 10) 3, some 11, none⟩, ⟨.assign (.tmp 11), some 4, none⟩])
  .ret))
theorem c22_of : SC.of Tryz.f22.body.get! = c22 := by kernel_rfl
theorem body22 : Tryz.f22.body = some (Tryz.f22.body.get!) := by kernel_rfl
theorem nt22 : Tryz.f22.ntmps = 12 := by kernel_rfl
theorem res22 : Tryz.f22.results.toList = [.tmp 4] := by kernel_rfl
theorem rem_int {a b : Int} (hb : b ≠ 0) : intBin .rem .i64 a b = some (.int .i64 (a.tmod b)) := by
  have h0 : ieqb b 0 = false := by rw [ieqb_eq]; exact decide_eq_false hb
  simp only [intBin, h0]; rfl
theorem round_eq {k n : Int} (hn : 0 < n) : (k.tmod n + n).tmod n = k % n := by
  have h1 := Int.tmod_lt_of_pos k hn
  have h2 : -n < k.tmod n := by
    have := Int.lt_tmod_of_pos k hn
    omega
  rw [Int.tmod_eq_emod_of_nonneg (by omega)]
  have h3 : (k.tmod n) % n = k % n := by
    have := Int.tmod_eq_emod (a := k) (b := n)
    rw [this]
    split
    · simp
    · rw [Int.natAbs_of_nonneg (Int.le_of_lt hn), Int.sub_emod_right, Int.emod_emod_of_dvd _ (Int.dvd_refl n)]
  rw [Int.add_emod_right, h3]
theorem add_intR {a b : Int} (h1 : -4611686018427387904 ≤ a + b) (h2 : a + b ≤ 4611686018427387904) : intBin .add .i64 a b = some (.int .i64 (a + b)) := by
  have : wrapF .i64 (Int.add a b) = a + b := by
    rw [wrapF_eq]
    show IntKind.wrap .i64 (a + b) = _
    rw [IntWalk.i64_in _ (by omega)]
  simp only [intBin, this]
theorem round_ok (hs : ∀ xs st, sum 22 xs st = none) {k n : Int} (hn : 0 < n) (hn2 : n ≤ 1000000) (st : St) : CallW (CS sum) 22 [.int .i64 k, .int .i64 n] st fun v st' => v = .int .i64 (k % n) ∧ st' = st := by
  have h1 := Int.tmod_lt_of_pos k hn
  have h2 : -n < k.tmod n := by
    have := Int.lt_tmod_of_pos k hn
    omega
  refine CallW.enter (hs _ _) Tryz.func22 body22 c22_of rfl ?_
  rw [nt22]
  unfold c22
  refine WK.seq ?_
  refine WK.region ?_
  refine WR.op rfl rfl rfl rfl ?_
  refine WR.nil ?_
  refine after.seq ?_
  refine WK.seq ?_
  refine WK.region ?_
  refine WR.op rfl rfl rfl rfl ?_
  refine WR.op rfl rfl rfl rfl ?_
  refine WR.op rfl rfl (r_arith ⟨by decide, by decide⟩ rfl rfl (rem_int (by omega))) rfl ?_
  refine WR.op rfl rfl rfl rfl ?_
  refine WR.op rfl rfl (r_arith ⟨by decide, by decide⟩ rfl rfl (add_intR (by omega) (by omega))) rfl ?_
  refine WR.op rfl rfl rfl rfl ?_
  refine WR.op rfl rfl (r_arith ⟨by decide, by decide⟩ rfl rfl (rem_int (by omega))) rfl ?_
  refine WR.op rfl rfl rfl rfl ?_
  refine WR.nil ?_
  refine after.seq ?_
  refine WK.ret ?_
  exact ⟨ret_ne 0, ret_ne, [.int .i64 ((k.tmod n + n).tmod n)], (by rw [res22]; rfl), congrArg (AV.int .i64) (round_eq hn), rfl⟩
/-- slices.Backward[fleuron/scope.Set,fleuron/scope.Counter] -/
def c126 : SC := (.seq (.region [⟨.box 51 (.tmp 0), some 1, none⟩, ⟨.assign (.const .nilFunc), some 2, none⟩])
  (.seq (.region [⟨.makeFunc (.func 166) #[] #[(.tmp 1)], some 3, none⟩, ⟨.assign (.tmp 3), some 2, none⟩])
  .ret))
theorem c126_of : SC.of Tryz.f126.body.get! = c126 := by kernel_rfl
theorem body126 : Tryz.f126.body = some (Tryz.f126.body.get!) := by kernel_rfl
theorem nt126 : Tryz.f126.ntmps = 4 := by kernel_rfl
theorem res126 : Tryz.f126.results.toList = [.tmp 2] := by kernel_rfl
theorem backwardC_ok (hs : ∀ xs st, sum 126 xs st = none) {x : AV} (hx : x.plain = true) (hc : x.cells = [x]) (st : St) : CallW (CS sum) 126 [x] st fun v st' => v = .func (.func 166) [] [.ptr st.next 0] ∧ st' = st.push (boxO 51 x) := by
  refine CallW.enter (hs _ _) Tryz.func126 body126 c126_of rfl ?_
  rw [nt126]
  unfold c126
  refine WK.seq ?_
  refine WK.region ?_
  refine WR.op rfl rfl (r_box rfl (by rw [hc]; simp [hx])) rfl ?_
  refine WR.op rfl rfl rfl rfl ?_
  refine WR.nil ?_
  refine after.seq ?_
  refine WK.seq ?_
  refine WK.region ?_
  refine WR.op rfl rfl rfl rfl ?_
  refine WR.op rfl rfl rfl rfl ?_
  refine WR.nil ?_
  refine after.seq ?_
  refine WK.ret ?_
  exact ⟨ret_ne 0, ret_ne, [.func (.func 166) [] [.ptr st.next 0]], (by rw [res126]; rfl), rfl, rfl⟩
/-- slices.Backward[fleuron/scope.Set,fleuron/scope.Counter]$1 -/
def c166 : SC := (.seq (.region [⟨.load 51 (.tmp 1), some 4, none⟩, ⟨.call ⟨.builtin .len, #[(.tmp 4)], #[51]⟩, some 5, none⟩, ⟨.binOp .sub 3 (.tmp 5) (.const (.int .i64 1)) 3, some 6, none⟩, ⟨.assign (.tmp 6), some 3, none⟩])
  (.block 0 (.loop (.seq (.seq (.region [⟨.move (.tmp 3), some 7, none⟩, ⟨.binOp .geq 3 (.tmp 7) (.const (.int .i64 0)) 3, some 8, none⟩])
  (.cond (.tmp 8) .skip (.exit 0)))
  (.seq (.block 1 (.seq (.region [⟨.move (.tmp 0), some 11, none⟩, ⟨.move (.tmp 3), some 12, none⟩, ⟨.load 51 (.tmp 1), some 13, none⟩, ⟨.move (.tmp 3), some 14, none⟩, ⟨.indexAddr 51 (.tmp 13) (.tmp 14), some 15, none⟩, ⟨.load 49 (.tmp 15), some 16, none⟩, ⟨.call ⟨.value (.tmp 11), #[(.tmp 12), (.tmp 16)], #[3, 49]⟩, some 17, none⟩, ⟨.unOp .not 4 (.tmp 17), some 18, none⟩])
  (.cond (.tmp 18) .ret .skip)))
  (.region [⟨.move (.tmp 3), some 9, none⟩, ⟨.binOp .sub 3 (.tmp 9) (.const (.int .i64 1)) 3, some 10, none⟩, ⟨.assign (.tmp 10), some 3, none⟩]))))))
theorem c166_of : SC.of Tryz.f166.body.get! = c166 := by kernel_rfl
theorem body166 : Tryz.f166.body = some (Tryz.f166.body.get!) := by kernel_rfl
theorem nt166 : Tryz.f166.ntmps = 19 := by kernel_rfl
theorem res166 : Tryz.f166.results.toList = [] := by kernel_rfl
/-- fleuron/scope.inner -/
def c84 : SC := (.seq (.region [⟨.box 9 (.tmp 1), some 3, none⟩, ⟨.alloc 3, some 4, none⟩])
  (.seq (.seq (.region [⟨.move (.tmp 0), some 7, none⟩, ⟨.call ⟨.value (.func 126), #[(.tmp 7)], #[51]⟩, some 8, none⟩])
  (.block 0 (.rangeFunc (.tmp 8) [9, 10] (.seq (.region [⟨.assign (.tmp 9), some 5, none⟩])
  (.region [⟨.alloc 49, some 6, none⟩, ⟨.store 49 (.tmp 6) (.tmp 10), none, none⟩]))
  (.block 1 (.seq (.region [⟨.fieldAddr 49 (.tmp 6) 0, some 11, none⟩, ⟨.load 9 (.tmp 11), some 12, none⟩, ⟨.load 9 (.tmp 3), some 13, none⟩, ⟨.binOp .eql 9 (.tmp 12) (.tmp 13) 9, some 14, none⟩])
  (.cond (.tmp 14) (.seq (.region [⟨.move (.tmp 5), some 15, none⟩, ⟨.store 3 (.tmp 4) (.tmp 15), none, none⟩])
  .ret) .skip))))))
  (.seq (.region [⟨.store 3 (.tmp 4) (.const (.int .i64 (-1))), none, none⟩])
  .ret)))
theorem c84_of : SC.of Tryz.f84.body.get! = c84 := by kernel_rfl
theorem body84 : Tryz.f84.body = some (Tryz.f84.body.get!) := by kernel_rfl
theorem nt84 : Tryz.f84.ntmps = 16 := by kernel_rfl
theorem res84 : Tryz.f84.results.toList = [.cell 4 3] := by kernel_rfl
def c84a : SC := (.seq (.region [⟨.assign (.tmp 9), some 5, none⟩])
  (.region [⟨.alloc 49, some 6, none⟩, ⟨.store 49 (.tmp 6) (.tmp 10), none, none⟩]))
def c84b : SC := (.block 1 (.seq (.region [⟨.fieldAddr 49 (.tmp 6) 0, some 11, none⟩, ⟨.load 9 (.tmp 11), some 12, none⟩, ⟨.load 9 (.tmp 3), some 13, none⟩, ⟨.binOp .eql 9 (.tmp 12) (.tmp 13) 9, some 14, none⟩])
  (.cond (.tmp 14) (.seq (.region [⟨.move (.tmp 5), some 15, none⟩, ⟨.store 3 (.tmp 4) (.tmp 15), none, none⟩])
  .ret) .skip)))
/-- What holds while a name is looked for: the place's box, the name's, the row's. -/
structure Look (st1 : St) (lb b3 b4 bc : Nat) (nm : List UInt8) (o : AObj) (x : AV) (r : Int) (st : St) : Prop where
  ext : Ext st1 st
  hl : st.heap.get lb = some o
  h3 : st.heap.get b3 = some (boxO 9 (.str nm))
  h4 : st.heap.get b4 = some (boxO 3 (.int .i64 r))
  hc : st.heap.get bc = some (boxO 51 x)
  l0 : st1.next ≤ b4 ∧ st1.next ≤ lb
  lt : lb < st.next ∧ b3 < st.next ∧ b4 < st.next ∧ bc < st.next
  ne : lb ≠ b3 ∧ lb ≠ b4 ∧ lb ≠ bc ∧ b3 ≠ b4 ∧ b4 ≠ bc
theorem Look.push {st1 st : St} {lb b3 b4 bc : Nat} {nm : List UInt8} {o : AObj} {x : AV} {r : Int} (h : Look st1 lb b3 b4 bc nm o x r st) (e : TypeId) (v : AV) : Look st1 lb b3 b4 bc nm o x r (st.push (boxO e v)) := by
  obtain ⟨q1, q2, q3, q4⟩ := h.lt
  exact ⟨h.ext.push _, by rw [push_lt _ _ q1]; exact h.hl, by rw [push_lt _ _ q2]; exact h.h3, by rw [push_lt _ _ q3]; exact h.h4, by rw [push_lt _ _ q4]; exact h.hc, h.l0, by rw [push_next]; exact ⟨by omega, by omega, by omega, by omega⟩, h.ne⟩
theorem Look.setNew {st1 st : St} {lb b3 b4 bc n : Nat} {nm : List UInt8} {o : AObj} {x : AV} {r : Int} (h : Look st1 lb b3 b4 bc nm o x r st) (hn : st1.next ≤ n ∧ n ≠ lb ∧ n ≠ b3 ∧ n ≠ b4 ∧ n ≠ bc) (o2 : AObj) (ho : o2.fam = none) : Look st1 lb b3 b4 bc nm o x r (st.setObj n o2) := by
  obtain ⟨p0, p1, p2, p3, p4⟩ := hn
  exact ⟨h.ext.set p0 _ ho, by rw [set_get, if_neg (fun e => p1 e.symm)]; exact h.hl, by rw [set_get, if_neg (fun e => p2 e.symm)]; exact h.h3, by rw [set_get, if_neg (fun e => p3 e.symm)]; exact h.h4, by rw [set_get, if_neg (fun e => p4 e.symm)]; exact h.hc, h.l0, by rw [set_next]; exact h.lt, h.ne⟩
theorem Look.setL {st1 st : St} {lb b3 b4 bc : Nat} {nm : List UInt8} {o o2 : AObj} {x : AV} {r : Int} (h : Look st1 lb b3 b4 bc nm o x r st) (ho : o2.fam = none) : Look st1 lb b3 b4 bc nm o2 x r (st.setObj lb o2) := by
  obtain ⟨n1, n2, n3, _, _⟩ := h.ne
  exact ⟨h.ext.set h.l0.2 _ ho, by rw [set_get, if_pos rfl], by rw [set_get, if_neg (fun e => n1 e.symm)]; exact h.h3, by rw [set_get, if_neg (fun e => n2 e.symm)]; exact h.h4, by rw [set_get, if_neg (fun e => n3 e.symm)]; exact h.hc, h.l0, by rw [set_next]; exact h.lt, h.ne⟩
theorem Look.set4 {st1 st : St} {lb b3 b4 bc : Nat} {nm : List UInt8} {o : AObj} {x : AV} {r : Int} (h : Look st1 lb b3 b4 bc nm o x r st) (r2 : Int) : Look st1 lb b3 b4 bc nm o x r2 (st.setObj b4 (boxO 3 (.int .i64 r2))) := by
  obtain ⟨_, n2, _, n4, n5⟩ := h.ne
  exact ⟨h.ext.set h.l0.1 _, by rw [set_get, if_neg n2]; exact h.hl, by rw [set_get, if_neg n4]; exact h.h3, by rw [set_get, if_pos rfl], by rw [set_get, if_neg (fun e => n5 e.symm)]; exact h.hc, h.l0, by rw [set_next]; exact h.lt, h.ne⟩
/-- The loop's record, by how a round ended. -/
def recO (found : Bool) (fr : Fr) (a b : Code) : AObj := if found = true then .loop .done (some .ret) fr [9, 10] a b else .loop .ready none fr [9, 10] a b
theorem yieldC_ok {st1 : St} {lb b3 b4 bc : Nat} {nm : List UInt8} {x : AV} {fr : Fr} {a b : Code} {E : Env} (hf : FrIs 16 none E fr) (ha : SC.of a = c84a) (hbo : SC.of b = c84b) (e3 : lookE 3 E = some (.ptr b3 0)) (e4 : lookE 4 E = some (.ptr b4 0))
    (i : Int) (c : Ctr) {st : St} (h : Look st1 lb b3 b4 bc nm (.loop .ready none fr [9, 10] a b) x 0 st) :
    YieldW (CS sum) lb [.int .i64 i, .agg c.cells] st fun v st' => v = .bool (!eqL c.name nm) ∧ Look st1 lb b3 b4 bc nm (recO (eqL c.name nm) fr a b) x (if eqL c.name nm = true then i else 0) st' := by
  refine YieldW.intro h.hl hf ha hbo rfl rfl ?_
  show WK (CS sum) 16 (some lb) c84a [] ([(10, .agg c.cells), (9, .int .i64 i)] ++ E) st _
  refine WK.sub [(10, .agg c.cells), (9, .int .i64 i), (3, .ptr b3 0), (4, .ptr b4 0)] ?_ ?_
  · intro t v ht
    simp only [lookE_cons] at ht
    show lookE t ((10, .agg c.cells) :: (9, .int .i64 i) :: E) = _
    rw [lookE_cons, lookE_cons]
    by_cases q10 : t = 10
    · rw [if_pos q10] at ht ⊢; exact ht
    rw [if_neg q10] at ht ⊢
    by_cases q9 : t = 9
    · rw [if_pos q9] at ht ⊢; exact ht
    rw [if_neg q9] at ht ⊢
    by_cases q3 : t = 3
    · rw [if_pos q3] at ht; subst q3; rw [e3]; exact ht
    rw [if_neg q3] at ht
    by_cases q4 : t = 4
    · rw [if_pos q4] at ht; subst q4; rw [e4]; exact ht
    rw [if_neg q4] at ht
    cases ht
  have hb2 := push_self st (boxO 49 (.agg [.str [], .int .i64 0, .int .i64 0, .bool false]))
  obtain ⟨st2, hst2⟩ : ∃ s, s = (st.push (boxO 49 (.agg [.str [], .int .i64 0, .int .i64 0, .bool false]))).setObj st.next (boxO 49 (.agg c.cells)) := ⟨_, rfl⟩
  have hq := h.lt
  have hL2 : Look st1 lb b3 b4 bc nm (.loop .ready none fr [9, 10] a b) x 0 st2 := by
    rw [hst2]
    exact (h.push 49 _).setNew ⟨h.ext.nx, by omega, by omega, by omega, by omega⟩ _ rfl
  have hb3 : st2.heap.get st.next = some (boxO 49 (.agg c.cells)) := by rw [hst2, set_get, if_pos rfl]
  unfold c84a
  refine WK.seq ?_
  refine WK.region ?_
  refine WR.op rfl rfl rfl rfl ?_
  refine WR.nil ?_
  refine after.seq ?_
  refine WK.region ?_
  refine WR.op rfl rfl (r_alloc ze49 rfl) rfl ?_
  refine WR.op0 rfl rfl (r_st (v := .agg [.str [], .int .i64 0, .int .i64 0, .bool false]) (u := .agg c.cells) sz49 rfl rfl hb2 rfl rfl) ?_
  rw [← hst2]
  refine WR.nil ?_
  refine after.nil ⟨rfl, hL2.hl, ?_⟩
  have hL3 := hL2.setL (o2 := .loop .busy none fr [9, 10] a b) rfl
  have hb4 : (st2.setObj lb (.loop .busy none fr [9, 10] a b)).heap.get st.next = some (boxO 49 (.agg c.cells)) := by rw [set_get, if_neg (by omega)]; exact hb3
  show WK (CS sum) 16 (some lb) c84b [] ((6, .ptr st.next 0) :: (5, .int .i64 i) :: [(10, .agg c.cells), (9, .int .i64 i), (3, .ptr b3 0), (4, .ptr b4 0)]) (st2.setObj lb (.loop .busy none fr [9, 10] a b)) _
  unfold c84b
  cases hm : eqL c.name nm with
  | true =>
    refine WK.block ?_
    refine WK.seq ?_
    refine WK.region ?_
    refine WR.op rfl rfl (r_fa fo49_0 rfl) rfl ?_
    refine WR.op rfl rfl (r_ld agg9 rfl hb4 rfl) rfl ?_
    refine WR.op rfl rfl (r_ld agg9 rfl hL3.h3 rfl) rfl ?_
    refine WR.op rfl rfl (r_seql rfl rfl hm) rfl ?_
    refine WR.nil ?_
    refine after.seq ?_
    refine WK.cond rfl (fun _ => ?_) (fun h => (by cases h))
    refine WK.seq ?_
    refine WK.region ?_
    refine WR.op rfl rfl rfl rfl ?_
    refine WR.op0 rfl rfl (r_st (v := .int .i64 0) (u := .int .i64 i) sz3 rfl rfl hL3.h4 rfl rfl) ?_
    have hL4 := hL3.set4 i
    refine WR.nil ?_
    refine after.seq ?_
    refine WK.ret ?_
    refine after.block_ret ?_
    refine after.nil ⟨hL4.hl, rfl, ?_⟩
    exact hL4.setL rfl
  | false =>
    refine WK.block ?_
    refine WK.seq ?_
    refine WK.region ?_
    refine WR.op rfl rfl (r_fa fo49_0 rfl) rfl ?_
    refine WR.op rfl rfl (r_ld agg9 rfl hb4 rfl) rfl ?_
    refine WR.op rfl rfl (r_ld agg9 rfl hL3.h3 rfl) rfl ?_
    refine WR.op rfl rfl (r_seql rfl rfl hm) rfl ?_
    refine WR.nil ?_
    refine after.seq ?_
    refine WK.cond rfl (fun h => (by cases h)) (fun _ => ?_)
    refine WK.skip ?_
    refine after.block ?_
    refine after.nil ⟨hL3.hl, rfl, ?_⟩
    exact hL3.setL rfl
def c166loop : SC := (.loop (.seq (.seq (.region [⟨.move (.tmp 3), some 7, none⟩, ⟨.binOp .geq 3 (.tmp 7) (.const (.int .i64 0)) 3, some 8, none⟩])
  (.cond (.tmp 8) .skip (.exit 0)))
  (.seq (.block 1 (.seq (.region [⟨.move (.tmp 0), some 11, none⟩, ⟨.move (.tmp 3), some 12, none⟩, ⟨.load 51 (.tmp 1), some 13, none⟩, ⟨.move (.tmp 3), some 14, none⟩, ⟨.indexAddr 51 (.tmp 13) (.tmp 14), some 15, none⟩, ⟨.load 49 (.tmp 15), some 16, none⟩, ⟨.call ⟨.value (.tmp 11), #[(.tmp 12), (.tmp 16)], #[3, 49]⟩, some 17, none⟩, ⟨.unOp .not 4 (.tmp 17), some 18, none⟩])
  (.cond (.tmp 18) .ret .skip)))
  (.region [⟨.move (.tmp 3), some 9, none⟩, ⟨.binOp .sub 3 (.tmp 9) (.const (.int .i64 1)) 3, some 10, none⟩, ⟨.assign (.tmp 10), some 3, none⟩]))))
theorem backC_loop {st1 : St} {lb b3 b4 bc : Nat} {nm : List UInt8} {x : AV} {cs : List Ctr} {fr : Fr} {a b : Code} {E : Env} (hlen : cs.length < 1000000) (hx : Els st1 x 4 (cs.map Ctr.cells)) (hxc : x.cells = [x]) (hf : FrIs 16 none E fr) (ha : SC.of a = c84a) (hbo : SC.of b = c84b) (e3 : lookE 3 E = some (.ptr b3 0)) (e4 : lookE 4 E = some (.ptr b4 0)) :
    ∀ (m : Nat), m ≤ cs.length → ∀ (st : St), Look st1 lb b3 b4 bc nm (.loop .ready none fr [9, 10] a b) x 0 st →
    ∀ env, lookE 0 env = some (.func (.yield lb) [] []) → lookE 1 env = some (.ptr bc 0) → lookE 3 env = some (.int .i64 ((m : Int) - 1)) →
    WK (CS sum) 19 none c166loop [.block 0] env st fun e env st' => (∀ i, e ≠ .exit i) ∧ ∃ vs, resE (CS sum).P env st' Tryz.f166.results.toList = some vs ∧ Look st1 lb b3 b4 bc nm (recO (decide (0 ≤ lastN cs nm m)) fr a b) x (if 0 ≤ lastN cs nm m then lastN cs nm m else 0) st' := by
  intro m
  induction m with
  | zero =>
    intro hm st h env h0 h1 h3
    refine WK.sub [(0, .func (.yield lb) [] []), (1, .ptr bc 0), (3, .int .i64 (((0 : Nat) : Int) - 1))] ?_ ?_
    · intro t v ht
      simp only [lookE_cons] at ht
      by_cases e0 : t = 0
      · rw [if_pos e0] at ht; subst e0; rw [h0]; exact ht
      rw [if_neg e0] at ht
      by_cases e1 : t = 1
      · rw [if_pos e1] at ht; subst e1; rw [h1]; exact ht
      rw [if_neg e1] at ht
      by_cases e3 : t = 3
      · rw [if_pos e3] at ht; subst e3; rw [h3]; exact ht
      rw [if_neg e3] at ht
      cases ht
    unfold c166loop
    refine WK.loop ?_
    refine WK.seq ?_
    refine WK.seq ?_
    refine WK.region ?_
    refine WR.op rfl rfl rfl rfl ?_
    refine WR.op rfl rfl (r_geq rfl rfl (q := false) rfl) rfl ?_
    refine WR.nil ?_
    refine after.seq ?_
    refine WK.cond rfl (fun h => (by cases h)) (fun _ => ?_)
    refine WK.exit ?_
    refine after.seq_exit ?_
    refine after.seq_exit ?_
    refine after.exit ?_
    exact ⟨normal_ne, [], (by rw [res166]; rfl), h⟩
  | succ m ih =>
    intro hm st h env h0 h1 h3
    have hml : m < cs.length := by omega
    obtain ⟨ma, off, ka, kl⟩ := (hx.ext h.ext).at (n := m) (t := 51) un51 sz49 (by rw [List.length_map]; exact hml)
    have hget : (cs.map Ctr.cells)[m]? = some cs[m].cells := by rw [List.getElem?_map, List.getElem?_eq_getElem hml]; rfl
    have hld := fun ρ' x' h => (kl cs[m].cells hget rfl ρ' 49 x' h).2 agg49 sz49 (by decide)
    have hgd : cs.getD m ⟨[], 0, 0, false⟩ = cs[m] := by rw [List.getD_eq_getElem?_getD, List.getElem?_eq_getElem hml]; rfl
    have e3' : (((m + 1 : Nat) : Int) - 1) = (m : Int) := by omega
    rw [e3'] at h3
    have hpos : (0 : Int) ≤ (m : Int) := by omega
    refine WK.sub [(0, .func (.yield lb) [] []), (1, .ptr bc 0), (3, .int .i64 (m : Int))] ?_ ?_
    · intro t v ht
      simp only [lookE_cons] at ht
      by_cases e0 : t = 0
      · rw [if_pos e0] at ht; subst e0; rw [h0]; exact ht
      rw [if_neg e0] at ht
      by_cases e1 : t = 1
      · rw [if_pos e1] at ht; subst e1; rw [h1]; exact ht
      rw [if_neg e1] at ht
      by_cases e3 : t = 3
      · rw [if_pos e3] at ht; subst e3; rw [h3]; exact ht
      rw [if_neg e3] at ht
      cases ht
    unfold c166loop
    cases hmm : eqL cs[m].name nm with
    | true =>
      refine WK.loop ?_
      refine WK.seq ?_
      refine WK.seq ?_
      refine WK.region ?_
      refine WR.op rfl rfl rfl rfl ?_
      refine WR.op rfl rfl (r_geq rfl rfl (q := true) (by rw [iltb_eq]; simp)) rfl ?_
      refine WR.nil ?_
      refine after.seq ?_
      refine WK.cond rfl (fun _ => ?_) (fun h => (by cases h))
      refine WK.skip ?_
      refine after.seq ?_
      refine WK.seq ?_
      refine WK.block ?_
      refine WK.seq ?_
      refine WK.region ?_
      refine WR.op rfl rfl rfl rfl ?_
      refine WR.op rfl rfl rfl rfl ?_
      refine WR.op rfl rfl (r_ld agg51 rfl h.hc (by show x.cells[0]? = some x; rw [hxc]; rfl)) rfl ?_
      refine WR.op rfl rfl rfl rfl ?_
      refine WR.op rfl rfl (ka rfl rfl) rfl ?_
      refine WR.op rfl rfl (hld _ _ rfl) rfl ?_
      refine WR.yield (k := lb) (xs := [.int .i64 (m : Int), .agg cs[m].cells]) (x := .tmp 11) rfl rfl rfl rfl rfl rfl rfl ((yieldC_ok hf ha hbo e3 e4 (m : Int) cs[m] h).mono ?_)
      rw [hmm]
      rintro v st2 ⟨rfl, h2⟩
      refine WR.op rfl rfl rfl rfl ?_
      refine WR.nil ?_
      refine after.seq ?_
      refine WK.cond rfl (fun _ => ?_) (fun h => (by cases h))
      refine WK.ret ?_
      refine after.block_ret ?_
      refine after.seq_ret ?_
      refine after.seq_ret ?_
      refine after.block_ret ?_
      have e : lastN cs nm (m + 1) = (m : Int) := by rw [lastN, hgd, if_pos hmm]
      rw [e, if_pos hpos, decide_eq_true hpos]
      exact ⟨ret_ne, [], (by rw [res166]; rfl), h2⟩
    | false =>
      refine WK.loop ?_
      refine WK.seq ?_
      refine WK.seq ?_
      refine WK.region ?_
      refine WR.op rfl rfl rfl rfl ?_
      refine WR.op rfl rfl (r_geq rfl rfl (q := true) (by rw [iltb_eq]; simp)) rfl ?_
      refine WR.nil ?_
      refine after.seq ?_
      refine WK.cond rfl (fun _ => ?_) (fun h => (by cases h))
      refine WK.skip ?_
      refine after.seq ?_
      refine WK.seq ?_
      refine WK.block ?_
      refine WK.seq ?_
      refine WK.region ?_
      refine WR.op rfl rfl rfl rfl ?_
      refine WR.op rfl rfl rfl rfl ?_
      refine WR.op rfl rfl (r_ld agg51 rfl h.hc (by show x.cells[0]? = some x; rw [hxc]; rfl)) rfl ?_
      refine WR.op rfl rfl rfl rfl ?_
      refine WR.op rfl rfl (ka rfl rfl) rfl ?_
      refine WR.op rfl rfl (hld _ _ rfl) rfl ?_
      refine WR.yield (k := lb) (xs := [.int .i64 (m : Int), .agg cs[m].cells]) (x := .tmp 11) rfl rfl rfl rfl rfl rfl rfl ((yieldC_ok hf ha hbo e3 e4 (m : Int) cs[m] h).mono ?_)
      rw [hmm]
      rintro v st2 ⟨rfl, h2⟩
      refine WR.op rfl rfl rfl rfl ?_
      refine WR.nil ?_
      refine after.seq ?_
      refine WK.cond rfl (fun h => (by cases h)) (fun _ => ?_)
      refine WK.skip ?_
      refine after.block ?_
      refine after.seq ?_
      refine WK.region ?_
      refine WR.op rfl rfl rfl rfl ?_
      refine WR.op rfl rfl (r_arith ⟨by decide, by decide⟩ rfl rfl (sub1 (by omega))) rfl ?_
      refine WR.op rfl rfl rfl rfl ?_
      refine WR.nil ?_
      refine after.seq ?_
      have e : lastN cs nm (m + 1) = lastN cs nm m := by rw [lastN, hgd, if_neg (by rw [hmm]; decide)]
      rw [e]
      exact ih (by omega) st2 h2 _ rfl rfl rfl
theorem backC_ok {st1 : St} {lb b3 b4 bc : Nat} {nm : List UInt8} {x : AV} {cs : List Ctr} {fr : Fr} {a b : Code} {E : Env} (hlen : cs.length < 1000000) (hx : Els st1 x 4 (cs.map Ctr.cells)) (hxc : x.cells = [x]) (hf : FrIs 16 none E fr) (ha : SC.of a = c84a) (hbo : SC.of b = c84b) (e3 : lookE 3 E = some (.ptr b3 0)) (e4 : lookE 4 E = some (.ptr b4 0))
    {st : St} (h : Look st1 lb b3 b4 bc nm (.loop .ready none fr [9, 10] a b) x 0 st) :
    CallBW (CS sum) 166 [.func (.yield lb) [] [], .ptr bc 0] st fun _ st' => Look st1 lb b3 b4 bc nm (recO (decide (0 ≤ lastN cs nm cs.length)) fr a b) x (if 0 ≤ lastN cs nm cs.length then lastN cs nm cs.length else 0) st' := by
  have hlm : (cs.map Ctr.cells).length = cs.length := List.length_map _
  have hln : ∀ {ρ : Rho} {y : Operand}, ρ y = some x → aopR Tryz.prog ρ st (.call ⟨.builtin .len, #[y], #[51]⟩) = some (.int .i64 (cs.length : Int), st) := by
    intro ρ y hy
    rw [← hlm]
    exact r_lenE ⟨_, un51⟩ hy (hx.ext h.ext)
  refine CallBW.enter Tryz.func166 body166 c166_of rfl ?_
  rw [nt166]
  unfold c166
  refine WK.seq ?_
  refine WK.region ?_
  refine WR.op rfl rfl (r_ld agg51 rfl h.hc (by show x.cells[0]? = some x; rw [hxc]; rfl)) rfl ?_
  refine WR.op rfl rfl (hln rfl) rfl ?_
  refine WR.op rfl rfl (r_arith ⟨by decide, by decide⟩ rfl rfl (sub1 (by omega))) rfl ?_
  refine WR.op rfl rfl rfl rfl ?_
  refine WR.nil ?_
  refine after.seq ?_
  refine WK.block ?_
  exact backC_loop hlen hx hxc hf ha hbo e3 e4 cs.length (Nat.le_refl _) st h _ rfl rfl rfl
theorem inner_ok (hs : ∀ f ∈ [84, 126], ∀ xs st, sum f xs st = none) {x : AV} {cs : List Ctr} {nm : List UInt8} {st : St} (hlen : cs.length < 1000000) (hx : Els st x 4 (cs.map Ctr.cells)) (hxp : x.plain = true) (hxc : x.cells = [x]) :
    CallW (CS sum) 84 [x, .str nm] st fun v st' => v = .int .i64 (lastN cs nm cs.length) ∧ Ext st st' := by
  have hn1 : (st.push (boxO 9 (.str nm))).next = st.next + 1 := push_next _ _
  have hn2 : ((st.push (boxO 9 (.str nm))).push (boxO 3 (.int .i64 0))).next = st.next + 2 := by rw [push_next, hn1]
  obtain ⟨st2, hst2⟩ : ∃ s, s = (st.push (boxO 9 (.str nm))).push (boxO 3 (.int .i64 0)) := ⟨_, rfl⟩
  rw [← hst2] at hn2
  have hx2 : Ext st st2 := by rw [hst2]; exact ((Ext.refl st).push _).push _
  have h3 : st2.heap.get st.next = some (boxO 9 (.str nm)) := by rw [hst2, push_lt _ _ (by omega)]; exact push_self _ _
  have h4 : st2.heap.get (st.next + 1) = some (boxO 3 (.int .i64 0)) := by rw [hst2, ← hn1]; exact push_self _ _
  cases hr : decide (0 ≤ lastN cs nm cs.length) with
  | true =>
    refine CallW.enter (hs 84 (by simp) _ _) Tryz.func84 body84 c84_of rfl ?_
    rw [nt84]
    unfold c84
    refine WK.seq ?_
    refine WK.region ?_
    refine WR.op rfl rfl (r_box rfl rfl) rfl ?_
    refine WR.op rfl rfl (r_alloc ze3 rfl) rfl ?_
    refine WR.nil ?_
    refine after.seq ?_
    refine WK.seq ?_
    refine WK.seq ?_
    refine WK.region ?_
    refine WR.op rfl rfl rfl rfl ?_
    rw [← hst2]
    refine WR.call (f := 126) («as» := [x]) rfl (.inl rfl) rfl rfl rfl rfl ((backwardC_ok (hs 126 (by simp)) hxp hxc _).mono ?_)
    rintro v st3 ⟨rfl, rfl⟩
    refine WR.nil ?_
    refine after.seq ?_
    refine WK.block ?_
    refine WK.rangeFunc (f := 166) (first := []) (captured := [.ptr st2.next 0]) rfl ?_
    intro fr a b hfr ha hbo
    have hn3 : (st2.push (boxO 51 x)).next = st2.next + 1 := push_next _ _
    have hn4 : ((st2.push (boxO 51 x)).push (.loop .ready none fr [9, 10] a b)).next = st2.next + 2 := by rw [push_next, hn3]
    have hlook : Look st (st2.push (boxO 51 x)).next st.next (st.next + 1) st2.next nm (.loop .ready none fr [9, 10] a b) x 0 ((st2.push (boxO 51 x)).push (.loop .ready none fr [9, 10] a b)) := by
      refine ⟨(hx2.push _).push _, push_self _ _, ?_, ?_, ?_, ⟨by omega, by omega⟩, ⟨by omega, by omega, by omega, by omega⟩, ⟨by omega, by omega, by omega, by omega, by omega⟩⟩
      · rw [push_lt _ _ (by omega), push_lt _ _ (by omega)]; exact h3
      · rw [push_lt _ _ (by omega), push_lt _ _ (by omega)]; exact h4
      · rw [push_lt _ _ (by omega)]; exact push_self _ _
    refine CallBW.mono (backC_ok hlen hx hxc hfr ha hbo rfl rfl hlook) ?_
    rw [hr]
    intro v st5 h5
    rw [if_pos (of_decide_eq_true hr)] at h5
    refine ⟨.done, some .ret, .ret, h5.hl, rfl, ?_⟩
    have h6 := h5.setL (o2 := .loop .exhausted (some .ret) fr [9, 10] a b) rfl
    refine after.block_ret ?_
    refine after.seq_ret ?_
    refine ⟨ret_ne 0, ret_ne, [.int .i64 (lastN cs nm cs.length)], ?_, rfl, h6.ext⟩
    rw [res84]
    have hl : load1 (st5.setObj (st2.push (boxO 51 x)).next (.loop .exhausted (some .ret) fr [9, 10] a b)) (st.next + 1) 0 = some (.int .i64 (lastN cs nm cs.length)) := box_load1 h6.h4 rfl
    show ((AE.loadVar Tryz.prog _ 3 (st.next + 1) 0).bnd _) = _
    unfold AE.loadVar
    rw [agg3]
    simp only [bnd_some, cond_false, hl]
    rfl
  | false =>
    refine CallW.enter (hs 84 (by simp) _ _) Tryz.func84 body84 c84_of rfl ?_
    rw [nt84]
    unfold c84
    refine WK.seq ?_
    refine WK.region ?_
    refine WR.op rfl rfl (r_box rfl rfl) rfl ?_
    refine WR.op rfl rfl (r_alloc ze3 rfl) rfl ?_
    refine WR.nil ?_
    refine after.seq ?_
    refine WK.seq ?_
    refine WK.seq ?_
    refine WK.region ?_
    refine WR.op rfl rfl rfl rfl ?_
    rw [← hst2]
    refine WR.call (f := 126) («as» := [x]) rfl (.inl rfl) rfl rfl rfl rfl ((backwardC_ok (hs 126 (by simp)) hxp hxc _).mono ?_)
    rintro v st3 ⟨rfl, rfl⟩
    refine WR.nil ?_
    refine after.seq ?_
    refine WK.block ?_
    refine WK.rangeFunc (f := 166) (first := []) (captured := [.ptr st2.next 0]) rfl ?_
    intro fr a b hfr ha hbo
    have hn3 : (st2.push (boxO 51 x)).next = st2.next + 1 := push_next _ _
    have hn4 : ((st2.push (boxO 51 x)).push (.loop .ready none fr [9, 10] a b)).next = st2.next + 2 := by rw [push_next, hn3]
    have hlook : Look st (st2.push (boxO 51 x)).next st.next (st.next + 1) st2.next nm (.loop .ready none fr [9, 10] a b) x 0 ((st2.push (boxO 51 x)).push (.loop .ready none fr [9, 10] a b)) := by
      refine ⟨(hx2.push _).push _, push_self _ _, ?_, ?_, ?_, ⟨by omega, by omega⟩, ⟨by omega, by omega, by omega, by omega⟩, ⟨by omega, by omega, by omega, by omega, by omega⟩⟩
      · rw [push_lt _ _ (by omega), push_lt _ _ (by omega)]; exact h3
      · rw [push_lt _ _ (by omega), push_lt _ _ (by omega)]; exact h4
      · rw [push_lt _ _ (by omega)]; exact push_self _ _
    refine CallBW.mono (backC_ok hlen hx hxc hfr ha hbo rfl rfl hlook) ?_
    rw [hr]
    intro v st5 h5
    rw [if_neg (of_decide_eq_false hr)] at h5
    refine ⟨.ready, none, .normal, h5.hl, rfl, ?_⟩
    have h6 := h5.setL (o2 := .loop .exhausted none fr [9, 10] a b) rfl
    refine after.block ?_
    refine after.seq ?_
    refine WK.seq ?_
    refine WK.region ?_
    refine WR.op0 rfl rfl (r_st (v := .int .i64 0) (u := .int .i64 (-1)) sz3 rfl rfl h6.h4 rfl rfl) ?_
    have h7 := h6.set4 (-1)
    refine WR.nil ?_
    refine after.seq ?_
    refine WK.ret ?_
    have hm1 : lastN cs nm cs.length = -1 := by
      have h1 := (lastN_lt cs nm cs.length).2
      have h2 : ¬ 0 ≤ lastN cs nm cs.length := of_decide_eq_false hr
      omega
    refine ⟨ret_ne 0, ret_ne, [.int .i64 (-1)], ?_, by rw [hm1]; rfl, h7.ext⟩
    rw [res84]
    have hl : load1 ((st5.setObj (st2.push (boxO 51 x)).next (.loop .exhausted none fr [9, 10] a b)).setObj (st.next + 1) (boxO 3 (.int .i64 (-1)))) (st.next + 1) 0 = some (.int .i64 (-1)) := box_load1 h7.h4 rfl
    show ((AE.loadVar Tryz.prog _ 3 (st.next + 1) 0).bnd _) = _
    unfold AE.loadVar
    rw [agg3]
    simp only [bnd_some, cond_false]
    erw [hl]
    rfl
end Go.Proofs.Tz
