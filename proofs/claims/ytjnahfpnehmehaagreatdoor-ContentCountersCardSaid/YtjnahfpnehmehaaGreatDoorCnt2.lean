/- A counter's number, and all numbers of a name. -/
import Derived.Test.YtjnahfpnehmehaaGreatDoorCnt1
namespace Go.Proofs.Tz
open Go Go.AE Go.RowKit Go.Proofs
set_option maxRecDepth 100000
variable {sum : FuncId → List AV → St → Option (AV × St)}
def intZ (n : Int) : List AV := [.int .i64 n]
/-- The number of the last counter of a name. -/
noncomputable def valN (cs : List Ctr) (nm : List UInt8) : Int := if lastN cs nm cs.length < 0 then 0 else (cs.getD (lastN cs nm cs.length).toNat ⟨[], 0, 0, false⟩).n
/-- All numbers of a name. -/
noncomputable def valsN (nm : List UInt8) : List Ctr → List Int
  | [] => []
  | c :: r => if eqL c.name nm = true then c.n :: valsN nm r else valsN nm r
/-- fleuron/scope.Value -/
def c51 : SC := (.seq (.region [⟨.assign (.const (.int .i64 0)), some 4, none⟩, ⟨.assign (.const (.bool false)), some 5, none⟩])
  (.seq (.region [⟨.move (.tmp 0), some 7, none⟩, ⟨.move (.tmp 1), some 8, none⟩, ⟨.call ⟨.value (.func 84), #[(.tmp 7), (.tmp 8)], #[51, 9]⟩, some 9, none⟩, ⟨.assign (.tmp 9), some 6, none⟩])
  (.seq (.seq (.region [⟨.move (.tmp 6), some 10, none⟩, ⟨.binOp .lss 3 (.tmp 10) (.const (.int .i64 0)) 3, some 11, none⟩])
  (.cond (.tmp 11) (.seq (.region [⟨.assign (.const (.int .i64 0)), some 4, none⟩, ⟨.assign (.const (.bool false)), some 5, none⟩])
  .ret) .skip))
  (.seq (.region [⟨.move (.tmp 0), some 12, none⟩, ⟨.move (.tmp 6), some 13, none⟩, ⟨.indexAddr 51 (.tmp 12) (.tmp 13), some 14, none⟩, ⟨.fieldAddr 49 (.tmp 14) 2, some 15, none⟩, ⟨.load 3 (.tmp 15), some 16, none⟩, ⟨.assign (.tmp 16), some 4, none⟩, ⟨.assign (.const (.bool true)), some 5, none⟩])
  .ret))))
theorem c51_of : SC.of Tryz.f51.body.get! = c51 := by kernel_rfl
theorem body51 : Tryz.f51.body = some (Tryz.f51.body.get!) := by kernel_rfl
theorem nt51 : Tryz.f51.ntmps = 17 := by kernel_rfl
theorem res51 : Tryz.f51.results.toList = [.tmp 4, .tmp 5] := by kernel_rfl
theorem r_iaE {P : Program} {st : St} {x : AV} {z : Nat} {l : List (List AV)} {t e : TypeId} (h : Els st x z l) (ht : und P t = some (.slice e)) (hs : sizeT P e = some z) {n : Nat} (hn : n < l.length) {k : Nat} (hk : k < z) {a : List AV} {v : AV} (ha : l[n]? = some a) (hal : a.length = z) (hv : a[k]? = some v) :
    ∃ m off, (∀ {ρ : Rho} {kk : IntKind} {x' y : Operand}, ρ x' = some x → ρ y = some (.int kk (n : Int)) → aopR P ρ st (.indexAddr t x' y) = some (.ptr m off, st)) ∧ ∀ (ρ : Rho) (t' : TypeId) (x' : Operand), ρ x' = some (.ptr m (Nat.add off k)) → isAggT P t' = some false → aopR P ρ st (.load t' x') = some (v, st) := by
  rcases h with ⟨_, rfl⟩ | ⟨m, c, B, rfl, h2, h3, h4, h5, h6, h7, h8⟩
  · simp at hn
  refine ⟨m, Nat.add 0 (Nat.mul n z), fun hx hy => r_idx ht hs hx hy hn, fun ρ t' x' hx' hagg => ?_⟩
  refine r_load1 hagg hx' ?_
  have hel : B.el n = some a := by
    unfold Blk.el
    rw [blt_true.2 (by omega), h6 n hn, ha]; rfl
  unfold load1
  rw [h3, bnd_some, h4]
  have e1 : Nat.div (Nat.add (Nat.add 0 (Nat.mul n z)) k) z = n := by
    show (0 + n * z + k) / z = n
    rw [Nat.zero_add, Nat.add_comm, Nat.add_mul_div_right _ _ (by omega), Nat.div_eq_of_lt hk, Nat.zero_add]
  have e2 : Nat.mod (Nat.add (Nat.add 0 (Nat.mul n z)) k) z = k := by
    show (0 + n * z + k) % z = k
    rw [Nat.zero_add, Nat.add_comm, Nat.add_mul_mod_self_right, Nat.mod_eq_of_lt hk]
  rw [e1, e2, hel, bnd_some, nth_eq]
  exact hv
theorem value_ok (hs : ∀ f ∈ [51, 84, 126], ∀ xs st, sum f xs st = none) {x : AV} {cs : List Ctr} {nm : List UInt8} {st : St} (hlen : cs.length < 1000000) (hx : Els st x 4 (cs.map Ctr.cells)) (hxp : x.plain = true) (hxc : x.cells = [x]) :
    CallW (CS sum) 51 [x, .str nm] st fun v st' => (∃ b, v = .tup [.int .i64 (valN cs nm), .bool b]) ∧ Ext st st' := by
  have hb := lastN_lt cs nm cs.length
  by_cases hneg : lastN cs nm cs.length < 0
  · refine CallW.enter (hs 51 (by simp) _ _) Tryz.func51 body51 c51_of rfl ?_
    rw [nt51]
    unfold c51
    refine WK.seq ?_
    refine WK.region ?_
    refine WR.op rfl rfl rfl rfl ?_
    refine WR.op rfl rfl rfl rfl ?_
    refine WR.nil ?_
    refine after.seq ?_
    refine WK.seq ?_
    refine WK.region ?_
    refine WR.op rfl rfl rfl rfl ?_
    refine WR.op rfl rfl rfl rfl ?_
    refine WR.call (f := 84) («as» := [x, .str nm]) rfl (.inl rfl) rfl rfl rfl rfl ((inner_ok (fun f hf => hs f (by revert f; decide)) hlen hx hxp hxc).mono ?_)
    rintro v1 st1 ⟨rfl, k1⟩
    refine WR.op rfl rfl rfl rfl ?_
    refine WR.nil ?_
    refine after.seq ?_
    refine WK.seq ?_
    refine WK.seq ?_
    refine WK.region ?_
    refine WR.op rfl rfl rfl rfl ?_
    refine WR.op rfl rfl (r_lss rfl rfl (iltb_T (by omega))) rfl ?_
    refine WR.nil ?_
    refine after.seq ?_
    refine WK.cond rfl (fun _ => ?_) (fun h => (by cases h))
    refine WK.seq ?_
    refine WK.region ?_
    refine WR.op rfl rfl rfl rfl ?_
    refine WR.op rfl rfl rfl rfl ?_
    refine WR.nil ?_
    refine after.seq ?_
    refine WK.ret ?_
    refine after.seq_ret ?_
    exact ⟨ret_ne 0, ret_ne, [.int .i64 0, .bool false], (by rw [res51]; rfl), ⟨false, by unfold valN; rw [if_pos hneg]; rfl⟩, k1⟩
  · obtain ⟨m, hm⟩ : ∃ m : Nat, lastN cs nm cs.length = (m : Int) := ⟨(lastN cs nm cs.length).toNat, by omega⟩
    have hml : m < cs.length := by omega
    have hv : valN cs nm = cs[m].n := by
      unfold valN
      rw [if_neg hneg, hm, Int.toNat_natCast, List.getD_eq_getElem?_getD, List.getElem?_eq_getElem hml]; rfl
    have hget : (cs.map Ctr.cells)[m]? = some cs[m].cells := by rw [List.getElem?_map, List.getElem?_eq_getElem hml]; rfl
    refine CallW.enter (hs 51 (by simp) _ _) Tryz.func51 body51 c51_of rfl ?_
    rw [nt51]
    unfold c51
    refine WK.seq ?_
    refine WK.region ?_
    refine WR.op rfl rfl rfl rfl ?_
    refine WR.op rfl rfl rfl rfl ?_
    refine WR.nil ?_
    refine after.seq ?_
    refine WK.seq ?_
    refine WK.region ?_
    refine WR.op rfl rfl rfl rfl ?_
    refine WR.op rfl rfl rfl rfl ?_
    refine WR.call (f := 84) («as» := [x, .str nm]) rfl (.inl rfl) rfl rfl rfl rfl ((inner_ok (fun f hf => hs f (by revert f; decide)) hlen hx hxp hxc).mono ?_)
    rintro v1 st1 ⟨rfl, k1⟩
    rw [hm]
    obtain ⟨ma, off, ka, kl⟩ := r_iaE (hx.ext k1) un51 sz49 (n := m) (by rw [List.length_map]; exact hml) (k := 2) (by decide) hget rfl rfl
    refine WR.op rfl rfl rfl rfl ?_
    refine WR.nil ?_
    refine after.seq ?_
    refine WK.seq ?_
    refine WK.seq ?_
    refine WK.region ?_
    refine WR.op rfl rfl rfl rfl ?_
    refine WR.op rfl rfl (r_lss rfl rfl (iltb_F (by omega))) rfl ?_
    refine WR.nil ?_
    refine after.seq ?_
    refine WK.cond rfl (fun h => (by cases h)) (fun _ => ?_)
    refine WK.skip ?_
    refine after.seq ?_
    refine WK.seq ?_
    refine WK.region ?_
    refine WR.op rfl rfl rfl rfl ?_
    refine WR.op rfl rfl rfl rfl ?_
    refine WR.op rfl rfl (ka rfl rfl) rfl ?_
    refine WR.op rfl rfl (r_fa fo49_2 rfl) rfl ?_
    refine WR.op rfl rfl (kl _ _ _ rfl agg3) rfl ?_
    refine WR.op rfl rfl rfl rfl ?_
    refine WR.op rfl rfl rfl rfl ?_
    refine WR.nil ?_
    refine after.seq ?_
    refine WK.ret ?_
    exact ⟨ret_ne 0, ret_ne, [.int .i64 cs[m].n, .bool true], (by rw [res51]; rfl), ⟨true, by rw [hv]; rfl⟩, k1⟩
/-- fleuron/scope.Values -/
def c52 : SC := (.seq (.region [⟨.assign (.const (.slice none 0 0)), some 4, none⟩])
  (.seq (.seq (.region [⟨.move (.tmp 0), some 7, none⟩, ⟨.call ⟨.builtin .len, #[(.tmp 7)], #[51]⟩, some 8, none⟩, ⟨.move (.const (.int .i64 0)), some 9, none⟩])
  (.block 0 (.loop (.seq (.region [⟨.binOp .lss 3 (.tmp 9) (.tmp 8) 3, some 10, none⟩])
  (.seq (.cond (.tmp 10) .skip (.exit 0))
  (.seq (.block 1 (.seq (.region [⟨.indexAddr 51 (.tmp 7) (.tmp 9), some 11, none⟩, ⟨.load 49 (.tmp 11), some 12, none⟩, ⟨.alloc 49, some 6, none⟩, ⟨.store 49 (.tmp 6) (.tmp 12), none, none⟩])
  (.seq (.region [⟨.fieldAddr 49 (.tmp 6) 0, some 13, none⟩, ⟨.load 9 (.tmp 13), some 14, none⟩, ⟨.move (.tmp 1), some 15, none⟩, ⟨.binOp .eql 9 (.tmp 14) (.tmp 15) 9, some 16, none⟩])
  (.cond (.tmp 16) (.region [⟨.move (.tmp 4), some 17, none⟩, ⟨.fieldAddr 49 (.tmp 6) 2, some 18, none⟩, ⟨.load 3 (.tmp 18), some 19, none⟩, ⟨.buildSlice 55 1 #[(0, (.tmp 19))], some 20, none⟩, ⟨.call ⟨.builtin .append, #[(.tmp 17), (.tmp 20)], #[55, 55]⟩, some 21, none⟩, ⟨.assign (.tmp 21), some 4, none⟩]) .skip))))
  (.region [⟨.binOp .add 3 (.tmp 9) (.const (.int .i64 1)) 3, some 22, none⟩, ⟨.move (.tmp 22), some 9, none⟩])))))))
  (.seq (.region [⟨.move (.tmp 4), some 23, none⟩, ⟨.assign (.tmp 23), some 4, none⟩])
  .ret)))
theorem c52_of : SC.of Tryz.f52.body.get! = c52 := by kernel_rfl
theorem body52 : Tryz.f52.body = some (Tryz.f52.body.get!) := by kernel_rfl
theorem nt52 : Tryz.f52.ntmps = 24 := by kernel_rfl
theorem res52 : Tryz.f52.results.toList = [.tmp 4] := by kernel_rfl
def c52loop : SC := (.loop (.seq (.region [⟨.binOp .lss 3 (.tmp 9) (.tmp 8) 3, some 10, none⟩])
  (.seq (.cond (.tmp 10) .skip (.exit 0))
  (.seq (.block 1 (.seq (.region [⟨.indexAddr 51 (.tmp 7) (.tmp 9), some 11, none⟩, ⟨.load 49 (.tmp 11), some 12, none⟩, ⟨.alloc 49, some 6, none⟩, ⟨.store 49 (.tmp 6) (.tmp 12), none, none⟩])
  (.seq (.region [⟨.fieldAddr 49 (.tmp 6) 0, some 13, none⟩, ⟨.load 9 (.tmp 13), some 14, none⟩, ⟨.move (.tmp 1), some 15, none⟩, ⟨.binOp .eql 9 (.tmp 14) (.tmp 15) 9, some 16, none⟩])
  (.cond (.tmp 16) (.region [⟨.move (.tmp 4), some 17, none⟩, ⟨.fieldAddr 49 (.tmp 6) 2, some 18, none⟩, ⟨.load 3 (.tmp 18), some 19, none⟩, ⟨.buildSlice 55 1 #[(0, (.tmp 19))], some 20, none⟩, ⟨.call ⟨.builtin .append, #[(.tmp 17), (.tmp 20)], #[55, 55]⟩, some 21, none⟩, ⟨.assign (.tmp 21), some 4, none⟩]) .skip))))
  (.region [⟨.binOp .add 3 (.tmp 9) (.const (.int .i64 1)) 3, some 22, none⟩, ⟨.move (.tmp 22), some 9, none⟩])))))
theorem values_loop {x : AV} {cs : List Ctr} {nm : List UInt8} {st0 : St} (hlen : cs.length < 1000000) (hx : Els st0 x 4 (cs.map Ctr.cells)) {ks : List Kont} {Q : Post3} : ∀ (r pre : List Ctr), pre ++ r = cs → ∀ (y : AV) (f : Nat) (st : St), IsRow st y f 3 1 ((valsN nm pre).map intZ) → Ext st0 st → (y = .nils ∨ st0.next ≤ f) →
    ∀ env, lookE 1 env = some (.str nm) → lookE 4 env = some y → lookE 7 env = some x → lookE 8 env = some (.int .i64 (cs.length : Int)) → lookE 9 env = some (.int .i64 (pre.length : Int)) →
    (∀ env' st2 y' f', lookE 4 env' = some y' → IsRow st2 y' f' 3 1 ((valsN nm cs).map intZ) → Ext st0 st2 → after (CS sum) 24 none ks Q .normal env' st2) →
    WK (CS sum) 24 none c52loop (.block 0 :: ks) env st Q := by
  intro r
  induction r with
  | nil =>
    intro pre hpre y f st hrow hext hf env h1 h4 h7 h8 h9 hfin
    have hpl : pre = cs := by rw [← hpre, List.append_nil]
    refine WK.sub [(1, .str nm), (4, y), (7, x), (8, .int .i64 (cs.length : Int)), (9, .int .i64 (pre.length : Int))] ?_ ?_
    · intro t v ht
      simp only [lookE_cons] at ht
      by_cases e1 : t = 1
      · rw [if_pos e1] at ht; subst e1; rw [h1]; exact ht
      rw [if_neg e1] at ht
      by_cases e4 : t = 4
      · rw [if_pos e4] at ht; subst e4; rw [h4]; exact ht
      rw [if_neg e4] at ht
      by_cases e7 : t = 7
      · rw [if_pos e7] at ht; subst e7; rw [h7]; exact ht
      rw [if_neg e7] at ht
      by_cases e8 : t = 8
      · rw [if_pos e8] at ht; subst e8; rw [h8]; exact ht
      rw [if_neg e8] at ht
      by_cases e9 : t = 9
      · rw [if_pos e9] at ht; subst e9; rw [h9]; exact ht
      rw [if_neg e9] at ht
      cases ht
    unfold c52loop
    refine WK.loop ?_
    refine WK.seq ?_
    refine WK.region ?_
    refine WR.op rfl rfl (r_lss rfl rfl (iltb_F (by rw [hpl]; omega))) rfl ?_
    refine WR.nil ?_
    refine after.seq ?_
    refine WK.seq ?_
    refine WK.cond rfl (fun h => (by cases h)) (fun _ => ?_)
    refine WK.exit ?_
    refine after.seq_exit ?_
    refine after.seq_exit ?_
    refine after.exit ?_
    exact hfin _ _ y f rfl (by rw [← hpl]; exact hrow) hext
  | cons c r ih =>
    intro pre hpre y f st hrow hext hf env h1 h4 h7 h8 h9 hfin
    have hpl : cs.length = pre.length + (r.length + 1) := by rw [← hpre]; simp
    have hvl : ∀ l : List Ctr, (valsN nm l).length ≤ l.length := by
      intro l
      induction l with
      | nil => exact Nat.le_refl 0
      | cons d l ih => rw [valsN]; split <;> simp only [List.length_cons] <;> omega
    have hva : ∀ l : List Ctr, valsN nm (l ++ [c]) = if eqL c.name nm = true then valsN nm l ++ [c.n] else valsN nm l := by
      intro l
      induction l with
      | nil => rw [List.nil_append, valsN, valsN]; split <;> rfl
      | cons d l ih => rw [List.cons_append, valsN, ih, valsN]; split <;> split <;> rfl
    have hv1 := hvl pre
    obtain ⟨mm, off, hia, hla⟩ := (hx.ext hext).at (n := pre.length) un51 sz49 (by rw [List.length_map]; omega)
    have hget : (cs.map Ctr.cells)[pre.length]? = some c.cells := by rw [List.getElem?_map, ← hpre]; simp
    have hnb := push_self st (boxO 49 (.agg [.str [], .int .i64 0, .int .i64 0, .bool false]))
    obtain ⟨st2, hst2⟩ : ∃ s, s = (st.push (boxO 49 (.agg [.str [], .int .i64 0, .int .i64 0, .bool false]))).setObj st.next (boxO 49 (.agg c.cells)) := ⟨_, rfl⟩
    have hb2 : st2.heap.get st.next = some (boxO 49 (.agg c.cells)) := by rw [hst2, set_get, if_pos rfl]
    have hx2 : Ext st st2 := by rw [hst2]; exact ((Ext.refl st).push _).set (Nat.le_refl _) _
    refine WK.sub [(1, .str nm), (4, y), (7, x), (8, .int .i64 (cs.length : Int)), (9, .int .i64 (pre.length : Int))] ?_ ?_
    · intro t v ht
      simp only [lookE_cons] at ht
      by_cases e1 : t = 1
      · rw [if_pos e1] at ht; subst e1; rw [h1]; exact ht
      rw [if_neg e1] at ht
      by_cases e4 : t = 4
      · rw [if_pos e4] at ht; subst e4; rw [h4]; exact ht
      rw [if_neg e4] at ht
      by_cases e7 : t = 7
      · rw [if_pos e7] at ht; subst e7; rw [h7]; exact ht
      rw [if_neg e7] at ht
      by_cases e8 : t = 8
      · rw [if_pos e8] at ht; subst e8; rw [h8]; exact ht
      rw [if_neg e8] at ht
      by_cases e9 : t = 9
      · rw [if_pos e9] at ht; subst e9; rw [h9]; exact ht
      rw [if_neg e9] at ht
      cases ht
    unfold c52loop
    refine WK.loop ?_
    cases hm : eqL c.name nm with
    | true =>
      refine WK.seq ?_
      refine WK.region ?_
      refine WR.op rfl rfl (r_lss rfl rfl (iltb_T (by omega))) rfl ?_
      refine WR.nil ?_
      refine after.seq ?_
      refine WK.seq ?_
      refine WK.cond rfl (fun _ => ?_) (fun h => (by cases h))
      refine WK.skip ?_
      refine after.seq ?_
      refine WK.seq ?_
      refine WK.block ?_
      refine WK.seq ?_
      refine WK.region ?_
      refine WR.op rfl rfl (hia rfl rfl) rfl ?_
      refine WR.op rfl rfl ((hla _ hget rfl _ _ _ rfl).2 agg49 sz49 (by decide)) rfl ?_
      refine WR.op rfl rfl (r_alloc ze49 rfl) rfl ?_
      refine WR.op0 rfl rfl (r_st (v := .agg [.str [], .int .i64 0, .int .i64 0, .bool false]) (u := .agg c.cells) sz49 rfl rfl hnb rfl rfl) ?_
      rw [← hst2]
      refine WR.nil ?_
      refine after.seq ?_
      refine WK.seq ?_
      refine WK.region ?_
      refine WR.op rfl rfl (r_fa fo49_0 rfl) rfl ?_
      refine WR.op rfl rfl (r_ld agg9 rfl hb2 rfl) rfl ?_
      refine WR.op rfl rfl rfl rfl ?_
      refine WR.op rfl rfl (r_seql rfl rfl hm) rfl ?_
      refine WR.nil ?_
      refine after.seq ?_
      refine WK.cond rfl (fun _ => ?_) (fun h => (by cases h))
      refine WK.region ?_
      refine WR.op rfl rfl rfl rfl ?_
      refine WR.op rfl rfl (r_fa fo49_2 rfl) rfl ?_
      refine WR.op rfl rfl (r_ld agg3 rfl hb2 rfl) rfl ?_
      refine WR.app1 (st0 := st0) un55 sz3 by3 rfl rfl ze3 rfl rfl rfl rfl rfl rfl (hrow.ext hx2) (hext.trans hx2) hf (by rw [List.length_map]; omega) ?_
      intro y2 st3 f2 hrow2 hext2 hf2 _ _ _
      refine WR.op rfl rfl rfl rfl ?_
      refine WR.nil ?_
      refine after.block ?_
      refine after.seq ?_
      refine WK.region ?_
      refine WR.op rfl rfl (r_arith ⟨by decide, by decide⟩ rfl rfl (add_nat (b := 1) (by omega))) rfl ?_
      refine WR.op rfl rfl rfl rfl ?_
      refine WR.nil ?_
      refine after.seq ?_
      exact ih (pre ++ [c]) (by rw [← hpre]; simp) y2 f2 st3 (by rw [hva, if_pos hm, List.map_append]; exact hrow2) hext2 (.inr hf2) _ rfl rfl rfl rfl (by rw [List.length_append]; rfl) hfin
    | false =>
      refine WK.seq ?_
      refine WK.region ?_
      refine WR.op rfl rfl (r_lss rfl rfl (iltb_T (by omega))) rfl ?_
      refine WR.nil ?_
      refine after.seq ?_
      refine WK.seq ?_
      refine WK.cond rfl (fun _ => ?_) (fun h => (by cases h))
      refine WK.skip ?_
      refine after.seq ?_
      refine WK.seq ?_
      refine WK.block ?_
      refine WK.seq ?_
      refine WK.region ?_
      refine WR.op rfl rfl (hia rfl rfl) rfl ?_
      refine WR.op rfl rfl ((hla _ hget rfl _ _ _ rfl).2 agg49 sz49 (by decide)) rfl ?_
      refine WR.op rfl rfl (r_alloc ze49 rfl) rfl ?_
      refine WR.op0 rfl rfl (r_st (v := .agg [.str [], .int .i64 0, .int .i64 0, .bool false]) (u := .agg c.cells) sz49 rfl rfl hnb rfl rfl) ?_
      rw [← hst2]
      refine WR.nil ?_
      refine after.seq ?_
      refine WK.seq ?_
      refine WK.region ?_
      refine WR.op rfl rfl (r_fa fo49_0 rfl) rfl ?_
      refine WR.op rfl rfl (r_ld agg9 rfl hb2 rfl) rfl ?_
      refine WR.op rfl rfl rfl rfl ?_
      refine WR.op rfl rfl (r_seql rfl rfl hm) rfl ?_
      refine WR.nil ?_
      refine after.seq ?_
      refine WK.cond rfl (fun h => (by cases h)) (fun _ => ?_)
      refine WK.skip ?_
      refine after.block ?_
      refine after.seq ?_
      refine WK.region ?_
      refine WR.op rfl rfl (r_arith ⟨by decide, by decide⟩ rfl rfl (add_nat (b := 1) (by omega))) rfl ?_
      refine WR.op rfl rfl rfl rfl ?_
      refine WR.nil ?_
      refine after.seq ?_
      exact ih (pre ++ [c]) (by rw [← hpre]; simp) y f st2 (by rw [hva, if_neg (by rw [hm]; decide)]; exact hrow.ext hx2) (hext.trans hx2) hf _ rfl rfl rfl rfl (by rw [List.length_append]; rfl) hfin
theorem values_ok (hs : ∀ xs st, sum 52 xs st = none) {x : AV} {cs : List Ctr} {nm : List UInt8} {st : St} (hlen : cs.length < 1000000) (hx : Els st x 4 (cs.map Ctr.cells)) :
    CallW (CS sum) 52 [x, .str nm] st fun v st' => (∃ f, IsRow st' v f 3 1 ((valsN nm cs).map intZ)) ∧ Ext st st' := by
  have hlm : (cs.map Ctr.cells).length = cs.length := List.length_map _
  have hln : ∀ {ρ : Rho} {y : Operand}, ρ y = some x → aopR Tryz.prog ρ st (.call ⟨.builtin .len, #[y], #[51]⟩) = some (.int .i64 (cs.length : Int), st) := by
    intro ρ y hy
    rw [← hlm]
    exact r_lenE ⟨_, un51⟩ hy hx
  refine CallW.enter (hs _ _) Tryz.func52 body52 c52_of rfl ?_
  rw [nt52]
  unfold c52
  refine WK.seq ?_
  refine WK.region ?_
  refine WR.op rfl rfl rfl rfl ?_
  refine WR.nil ?_
  refine after.seq ?_
  refine WK.seq ?_
  refine WK.seq ?_
  refine WK.region ?_
  refine WR.op rfl rfl rfl rfl ?_
  refine WR.op rfl rfl (hln rfl) rfl ?_
  refine WR.op rfl rfl rfl rfl ?_
  refine WR.nil ?_
  refine after.seq ?_
  refine WK.block ?_
  refine values_loop hlen hx cs [] rfl .nils 0 _ (.inl ⟨rfl, rfl⟩) (Ext.refl st) (.inl rfl) _ rfl rfl rfl rfl rfl fun env2 st2 y2 f2 g4 hrow2 hext2 => ?_
  refine after.seq ?_
  refine WK.sub [(4, y2)] ?_ ?_
  · intro t v ht
    simp only [lookE_cons] at ht
    by_cases e4 : t = 4
    · rw [if_pos e4] at ht; subst e4; rw [g4]; exact ht
    rw [if_neg e4] at ht
    cases ht
  refine WK.seq ?_
  refine WK.region ?_
  refine WR.op rfl rfl rfl rfl ?_
  refine WR.op rfl rfl rfl rfl ?_
  refine WR.nil ?_
  refine after.seq ?_
  refine WK.ret ?_
  exact ⟨ret_ne 0, ret_ne, [y2], (by rw [res52]; rfl), ⟨f2, hrow2⟩, hext2⟩
end Go.Proofs.Tz
