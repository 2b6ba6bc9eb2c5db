/- slices.Reverse of a row of numbers; a number as a sum: additive. -/
import Derived.Test.YtjnahfpnehmehaaGreatDoorRegC
import Derived.Test.YtjnahfpnehmehaaGreatDoorAeSet
namespace Go.Proofs.Tz
open Go Go.AE Go.RowKit Go.Proofs
set_option maxRecDepth 100000
variable {sum : FuncId → List AV → St → Option (AV × St)}
/-- A row, turned around up to place i from both ends. -/
def revS (l : List Nat) (i : Nat) : List Nat := (List.range l.length).map fun k => if k < i ∨ l.length ≤ k + i then l.getD (l.length - 1 - k) 0 else l.getD k 0
theorem revS_len (l : List Nat) (i : Nat) : (revS l i).length = l.length := by simp [revS]
theorem revS_get {l : List Nat} {i k : Nat} (hk : k < l.length) : (revS l i)[k]? = some (if k < i ∨ l.length ≤ k + i then l.getD (l.length - 1 - k) 0 else l.getD k 0) := by
  unfold revS
  rw [List.getElem?_map, List.getElem?_range hk]; rfl
theorem revS_zero (l : List Nat) : revS l 0 = l := by
  refine List.ext_getElem? fun k => ?_
  by_cases hk : k < l.length
  · rw [revS_get hk, if_neg (by omega), List.getD_eq_getElem?_getD, List.getElem?_eq_getElem hk]; rfl
  · rw [List.getElem?_eq_none (by rw [revS_len]; omega), List.getElem?_eq_none (by omega)]
theorem revS_end {l : List Nat} {i : Nat} (h : l.length ≤ 2 * i + 1) : revS l i = l.reverse := by
  refine List.ext_getElem? fun k => ?_
  by_cases hk : k < l.length
  · rw [revS_get hk, List.getElem?_reverse hk]
    have hk2 : l.length - 1 - k < l.length := by omega
    rw [List.getElem?_eq_getElem hk2]
    split
    · rw [List.getD_eq_getElem?_getD, List.getElem?_eq_getElem hk2]; rfl
    · rename_i h2
      have e : l.length - 1 - k = k := by omega
      rw [List.getD_eq_getElem?_getD, List.getElem?_eq_getElem hk]
      simp only [e, Option.getD_some]
  · rw [List.getElem?_eq_none (by rw [revS_len]; omega), List.getElem?_eq_none (by rw [List.length_reverse]; omega)]
theorem revS_step {l : List Nat} {i : Nat} (h : 2 * i + 1 < l.length) : ((revS l i).set i (l.getD (l.length - 1 - i) 0)).set (l.length - 1 - i) (l.getD i 0) = revS l (i + 1) := by
  refine List.ext_getElem? fun k => ?_
  rw [List.getElem?_set, List.getElem?_set]
  by_cases hk : k < l.length
  · rw [revS_get hk, revS_get hk]
    simp only [List.length_set, revS_len]
    by_cases h1 : l.length - 1 - i = k
    · rw [if_pos h1, if_pos (by omega), if_pos (by omega)]
      congr 2
      omega
    · rw [if_neg h1]
      by_cases h2 : i = k
      · rw [if_pos h2, if_pos (by omega), if_pos (by omega)]
        congr 2
        omega
      · rw [if_neg h2]
        by_cases h3 : k < i ∨ l.length ≤ k + i
        · rw [if_pos h3, if_pos (by omega)]
        · rw [if_neg h3, if_neg (by omega)]
  · rw [if_neg (by omega), if_neg (by omega), List.getElem?_eq_none (by rw [revS_len]; omega), List.getElem?_eq_none (by rw [revS_len]; omega)]
theorem intC_set (l : List Nat) (i v : Nat) : (l.map intC).set i [.int .i64 (v : Int)] = (l.set i v).map intC := by rw [List.map_set]; rfl
theorem need_none {T S S1 S2 : St} {i bi e1 b1 e2 b2 : Nat} (h : T ∈ need i bi [(e1, b1, S1), (e2, b2, S2)] S) (h1 : b1.testBit i = true) : T = S := by
  simp only [need, h1, cond_true, List.append_nil] at h
  cases hq : anyIn bi [(e1, b1, S1), (e2, b2, S2)] with
  | true => rw [hq] at h; cases h
  | false => rw [hq] at h; exact List.mem_singleton.1 h
theorem r_lenS {P : Program} {ρ : Rho} {st : St} {t : TypeId} {x : Operand} {m n : Nat} {c : Option Nat} (ht : ∃ e, und P t = some (.slice e)) (hx : ρ x = some (.slc m 0 n c)) : aopR P ρ st (.call ⟨.builtin .len, #[x], #[t]⟩) = some (.int .i64 (n : Int), st) := by
  obtain ⟨e, ht⟩ := ht
  simp only [aopR, evsR, hx, bnd_some, builtinOp, lenB, ht]
theorem iltb_T {a b : Int} (h : a < b) : iltb a b = true := by rw [iltb_eq]; exact decide_eq_true h
theorem iltb_F {a b : Int} (h : ¬ a < b) : iltb a b = false := by rw [iltb_eq]; exact decide_eq_false h
/-- slices.Reverse[[]int,int] -/
def c164 : SC := (.seq (.region [⟨.move (.tmp 0), some 4, none⟩, ⟨.call ⟨.builtin .len, #[(.tmp 4)], #[55]⟩, some 5, none⟩, ⟨.binOp .sub 3 (.tmp 5) (.const (.int .i64 1)) 3, some 6, none⟩, ⟨.assign (.const (.int .i64 0)), some 2, none⟩, ⟨.assign (.tmp 6), some 3, none⟩])
  (.block 0 (.loop (.seq (.seq (.region [⟨.move (.tmp 2), some 7, none⟩, ⟨.move (.tmp 3), some 8, none⟩, ⟨.binOp .lss 3 (.tmp 7) (.tmp 8) 3, some 9, none⟩])
  (.cond (.tmp 9) .skip (.exit 0)))
  (.seq (.block 1 (.draw [⟨.move (.tmp 0), some 14, none⟩, ⟨.move (.tmp 2), some 15, none⟩, ⟨.move (.tmp 0), some 16, none⟩, ⟨.move (.tmp 3), some 17, none⟩, ⟨.move (.tmp 0), some 18, none⟩, ⟨.move (.tmp 3), some 19, none⟩, ⟨.indexAddr 55 (.tmp 18) (.tmp 19), some 20, none⟩, ⟨.load 3 (.tmp 20), some 21, none⟩, ⟨.move (.tmp 0), some 22, none⟩, ⟨.move (.tmp 2), some 23, none⟩, ⟨.indexAddr 55 (.tmp 22) (.tmp 23), some 24, none⟩, ⟨.load 3 (.tmp 24), some 25, none⟩, ⟨.indexAddr 55 (.tmp 14) (.tmp 15), some 26, none⟩, ⟨.store 3 (.tmp 26) (.tmp 21), none, none⟩, ⟨.indexAddr 55 (.tmp 16) (.tmp 17), some 27, none⟩, ⟨.store 3 (.tmp 27) (.tmp 25), none, none⟩] [0, 0, 0, 0, 0, 0, 48, 112, 0, 0, 768, 1792, 4083, 8179, 16383, 32767] true))
  (.region [⟨.move (.tmp 2), some 10, none⟩, ⟨.binOp .add 3 (.tmp 10) (.const (.int .i64 1)) 3, some 11, none⟩, ⟨.move (.tmp 3), some 12, none⟩, ⟨.binOp .sub 3 (.tmp 12) (.const (.int .i64 1)) 3, some 13, none⟩, ⟨.assign (.tmp 11), some 2, none⟩, ⟨.assign (.tmp 13), some 3, none⟩]))))))
theorem c164_of : SC.of Tryz.f164.body.get! = c164 := by kernel_rfl
theorem body164 : Tryz.f164.body = some (Tryz.f164.body.get!) := by kernel_rfl
theorem nt164 : Tryz.f164.ntmps = 28 := by kernel_rfl
theorem res164 : Tryz.f164.results.toList = [] := by kernel_rfl
def c164loop : SC := (.loop (.seq (.seq (.region [⟨.move (.tmp 2), some 7, none⟩, ⟨.move (.tmp 3), some 8, none⟩, ⟨.binOp .lss 3 (.tmp 7) (.tmp 8) 3, some 9, none⟩])
  (.cond (.tmp 9) .skip (.exit 0)))
  (.seq (.block 1 (.draw [⟨.move (.tmp 0), some 14, none⟩, ⟨.move (.tmp 2), some 15, none⟩, ⟨.move (.tmp 0), some 16, none⟩, ⟨.move (.tmp 3), some 17, none⟩, ⟨.move (.tmp 0), some 18, none⟩, ⟨.move (.tmp 3), some 19, none⟩, ⟨.indexAddr 55 (.tmp 18) (.tmp 19), some 20, none⟩, ⟨.load 3 (.tmp 20), some 21, none⟩, ⟨.move (.tmp 0), some 22, none⟩, ⟨.move (.tmp 2), some 23, none⟩, ⟨.indexAddr 55 (.tmp 22) (.tmp 23), some 24, none⟩, ⟨.load 3 (.tmp 24), some 25, none⟩, ⟨.indexAddr 55 (.tmp 14) (.tmp 15), some 26, none⟩, ⟨.store 3 (.tmp 26) (.tmp 21), none, none⟩, ⟨.indexAddr 55 (.tmp 16) (.tmp 17), some 27, none⟩, ⟨.store 3 (.tmp 27) (.tmp 25), none, none⟩] [0, 0, 0, 0, 0, 0, 48, 112, 0, 0, 768, 1792, 4083, 8179, 16383, 32767] true))
  (.region [⟨.move (.tmp 2), some 10, none⟩, ⟨.binOp .add 3 (.tmp 10) (.const (.int .i64 1)) 3, some 11, none⟩, ⟨.move (.tmp 3), some 12, none⟩, ⟨.binOp .sub 3 (.tmp 12) (.const (.int .i64 1)) 3, some 13, none⟩, ⟨.assign (.tmp 11), some 2, none⟩, ⟨.assign (.tmp 13), some 3, none⟩]))))
/-- A row at m, of a family f that bears no text. -/
structure OwnRow (st0 st : St) (m f : Nat) (l : List Nat) : Prop where
  row : RowAt st m f 3 1 (l.map intC)
  ext : Ext st0 st
  m0 : st0.next ≤ m
  m1 : m < st.next
  f0 : st0.next ≤ f
  f1 : f < st.next
  mark : ∃ F, st.fams.get f = some F ∧ Nat.beq F.mark 1 = false
theorem rev_loop {st0 : St} {m f : Nat} {l : List Nat} (hl : l.length < 1000000) {ks : List Kont} {Q : Post3} : ∀ (d i : Nat), l.length < 2 * (i + d) + 2 → 2 * i ≤ l.length → 1 ≤ l.length → ∀ (st : St), OwnRow st0 st m f (revS l i) →
    ∀ env, lookE 0 env = some (.slc m 0 l.length none) → lookE 2 env = some (.int .i64 (i : Int)) → lookE 3 env = some (.int .i64 ((l.length : Int) - 1 - i)) →
    (∀ env' st2, OwnRow st0 st2 m f l.reverse → after (CS sum) 28 none ks Q .normal env' st2) →
    WK (CS sum) 28 none c164loop (.block 0 :: ks) env st Q := by
  intro d
  induction d with
  | zero =>
    intro i hd hi hl1 st hrow env h0 h2 h3 hfin
    refine WK.sub [(0, .slc m 0 l.length none), (2, .int .i64 (i : Int)), (3, .int .i64 ((l.length : Int) - 1 - i))] ?_ ?_
    · intro t v ht
      simp only [lookE_cons] at ht
      by_cases e0 : t = 0
      · rw [if_pos e0] at ht; subst e0; rw [h0]; exact ht
      rw [if_neg e0] at ht
      by_cases e2 : t = 2
      · rw [if_pos e2] at ht; subst e2; rw [h2]; exact ht
      rw [if_neg e2] at ht
      by_cases e3 : t = 3
      · rw [if_pos e3] at ht; subst e3; rw [h3]; exact ht
      rw [if_neg e3] at ht
      cases ht
    unfold c164loop
    refine WK.loop ?_
    refine WK.seq ?_
    refine WK.seq ?_
    refine WK.region ?_
    refine WR.op rfl rfl rfl rfl ?_
    refine WR.op rfl rfl rfl rfl ?_
    refine WR.op rfl rfl (r_lss rfl rfl (iltb_F (by omega))) rfl ?_
    refine WR.nil ?_
    refine after.seq ?_
    refine WK.cond rfl (fun h => (by cases h)) (fun _ => ?_)
    refine WK.exit ?_
    refine after.seq_exit ?_
    refine after.seq_exit ?_
    refine after.exit ?_
    exact hfin _ _ (by rw [← revS_end (l := l) (i := i) (by omega)]; exact hrow)
  | succ d ih =>
    intro i hd hi hl1 st hrow env h0 h2 h3 hfin
    refine WK.sub [(0, .slc m 0 l.length none), (2, .int .i64 (i : Int)), (3, .int .i64 ((l.length : Int) - 1 - i))] ?_ ?_
    · intro t v ht
      simp only [lookE_cons] at ht
      by_cases e0 : t = 0
      · rw [if_pos e0] at ht; subst e0; rw [h0]; exact ht
      rw [if_neg e0] at ht
      by_cases e2 : t = 2
      · rw [if_pos e2] at ht; subst e2; rw [h2]; exact ht
      rw [if_neg e2] at ht
      by_cases e3 : t = 3
      · rw [if_pos e3] at ht; subst e3; rw [h3]; exact ht
      rw [if_neg e3] at ht
      cases ht
    unfold c164loop
    refine WK.loop ?_
    by_cases hlt : 2 * i + 1 < l.length
    · have ej : ((l.length : Int) - 1 - i) = ((l.length - 1 - i : Nat) : Int) := by omega
      have hj : l.length - 1 - i < l.length := by omega
      have hlm : ((revS l i).map intC).length = l.length := by rw [List.length_map, revS_len]
      have gi : ((revS l i).map intC)[i]? = some [.int .i64 ((l.getD i 0 : Nat) : Int)] := by
        rw [List.getElem?_map, revS_get (by omega), if_neg (by omega)]; rfl
      have gj : ((revS l i).map intC)[l.length - 1 - i]? = some [.int .i64 ((l.getD (l.length - 1 - i) 0 : Nat) : Int)] := by
        rw [List.getElem?_map, revS_get hj, if_neg (by omega)]; rfl
      obtain ⟨F, hF1, hF2⟩ := hrow.mark
      rw [ej]
      refine WK.seq ?_
      refine WK.seq ?_
      refine WK.region ?_
      refine WR.op rfl rfl rfl rfl ?_
      refine WR.op rfl rfl rfl rfl ?_
      refine WR.op rfl rfl (r_lss rfl rfl (iltb_T (by omega))) rfl ?_
      refine WR.nil ?_
      refine after.seq ?_
      refine WK.cond rfl (fun _ => ?_) (fun h => (by cases h))
      refine WK.skip ?_
      refine after.seq ?_
      refine WK.seq ?_
      refine WK.block ?_
      refine WK.draw ?_
      have hrowR : RowAt (resv 16 st) m f 3 1 ((revS l i).map intC) := ⟨hrow.row.blk, hrow.row.fam⟩
      have hextR : Ext st0 (resv 16 st) := hrow.ext.resv 16
      have hm1R : m < (resv 16 st).next := Nat.lt_of_lt_of_le hrow.m1 (Nat.le_add_right _ _)
      have hf1R : f < (resv 16 st).next := Nat.lt_of_lt_of_le hrow.f1 (Nat.le_add_right _ _)
      have ia : ∀ {ρ : Rho} {S : St} {x y : Operand} {q : Nat}, ρ x = some (.slc m 0 l.length none) → ρ y = some (.int .i64 (q : Int)) → q < l.length → aopR Tryz.prog ρ S (.indexAddr 55 x y) = some (.ptr m q, S) := by
        intro ρ S x y q hx hy hq
        have := r_idx (st := S) un55 sz3 hx hy hq
        have e : Nat.add 0 (Nat.mul q 1) = q := by show 0 + q * 1 = q; omega
        rw [e] at this
        exact this
      refine WD.pure rfl (.inl rfl) rfl rfl rfl ?_
      refine WD.pure rfl (.inl rfl) rfl rfl rfl ?_
      refine WD.pure rfl (.inl rfl) rfl rfl rfl ?_
      refine WD.pure rfl (.inl rfl) rfl rfl rfl ?_
      refine WD.pure rfl (.inl rfl) rfl rfl rfl ?_
      refine WD.pure rfl (.inl rfl) rfl rfl rfl ?_
      refine WD.pure rfl (.inl rfl) rfl (ia rfl rfl hj) rfl ?_
      refine WD.read rfl (.inl rfl) rfl (r_load1 agg3 rfl (hrowR.load1 gj)) rfl ?_
      refine WD.pure rfl (.inl rfl) rfl rfl rfl ?_
      refine WD.pure rfl (.inl rfl) rfl rfl rfl ?_
      refine WD.pure rfl (.inl rfl) rfl (ia rfl rfl (by omega)) rfl ?_
      refine WD.read rfl (.inl rfl) rfl (r_load1 agg3 rfl (hrowR.load1 gi)) rfl ?_
      refine WD.pure rfl (.inl rfl) rfl (ia rfl rfl (by omega)) rfl ?_
      obtain ⟨st1, e1, e2, e3, e4, e5, ⟨F1, e6, e7⟩, e8⟩ := hrowR.store (P := Tryz.prog) (ρ := fun x => match x with | .tmp 0 => some (.ptr m i) | _ => some (.int .i64 ((l.getD (l.length - 1 - i) 0 : Nat) : Int))) (v := .int .i64 ((l.getD (l.length - 1 - i) 0 : Nat) : Int)) (t := 3) (x := .tmp 0) (y := .tmp 1) gi rfl sz3 rfl rfl hF1 hF2
      have hgj1 : (((revS l i).map intC).set i [.int .i64 ((l.getD (l.length - 1 - i) 0 : Nat) : Int)])[l.length - 1 - i]? = some [.int .i64 ((l.getD (l.length - 1 - i) 0 : Nat) : Int)] := by
        rw [List.getElem?_set_ne (by omega)]; exact gj
      obtain ⟨st2, a1, a2, a3, a4, a5, ⟨F2, a6, a7⟩, a8⟩ := e2.store (P := Tryz.prog) (ρ := fun x => match x with | .tmp 0 => some (.ptr m (l.length - 1 - i)) | _ => some (.int .i64 ((l.getD i 0 : Nat) : Int))) (v := .int .i64 ((l.getD i 0 : Nat) : Int)) (t := 3) (x := .tmp 0) (y := .tmp 1) hgj1 rfl sz3 rfl rfl e6 (by rw [e7]; exact hF2)
      refine WD.eff0 (st' := st1) (v := .tup []) rfl (.inl rfl) rfl rfl ?_ ?_
      · exact e1
      refine WD.pure rfl (.inl rfl) rfl (ia rfl rfl hj) rfl ?_
      refine WD.eff0 (st' := st2) (v := .tup []) rfl (.inl rfl) rfl rfl ?_ ?_
      · exact a1
      refine WD.nil ⟨.inr ?_, ?_⟩
      · intro e he
        simp only [List.mem_cons, List.not_mem_nil, or_false] at he
        rcases he with rfl | rfl
        · refine ⟨same_int _ _, fun S hS => ?_⟩
          obtain rfl := need_none hS (by kernel_rfl)
          exact r_load1 agg3 rfl (hrowR.load1 gi)
        · refine ⟨same_int _ _, fun S hS => ?_⟩
          obtain rfl := need_none hS (by kernel_rfl)
          exact r_load1 agg3 rfl (hrowR.load1 gj)
      have hx1 : Ext st0 st1 := hextR.rowSet hrow.m0 hrow.f0 hf1R e3 e4 e5 e8
      have hx2 : Ext st0 st2 := hx1.rowSet hrow.m0 hrow.f0 (by rw [e3]; exact hf1R) a3 a4 a5 a8
      have hrow2 : OwnRow st0 st2 m f (revS l (i + 1)) := by
        refine ⟨?_, hx2, hrow.m0, by rw [a3, e3]; exact hm1R, hrow.f0, by rw [a3, e3]; exact hf1R, ⟨F2, a6, by rw [a7, e7]; exact hF2⟩⟩
        rw [← revS_step hlt, ← intC_set, ← intC_set]
        exact a2
      refine after.block ?_
      refine after.seq ?_
      refine WK.region ?_
      refine WR.op rfl rfl rfl rfl ?_
      refine WR.op rfl rfl (r_arith ⟨by decide, by decide⟩ rfl rfl (add_nat (b := 1) (by omega))) rfl ?_
      refine WR.op rfl rfl rfl rfl ?_
      refine WR.op rfl rfl (r_arith ⟨by decide, by decide⟩ rfl rfl (sub_int (b := 1) (by omega) (by omega))) rfl ?_
      refine WR.op rfl rfl rfl rfl ?_
      refine WR.op rfl rfl rfl rfl ?_
      refine WR.nil ?_
      refine after.seq ?_
      exact ih (i + 1) (by omega) (by omega) hl1 st2 hrow2 _ rfl rfl (congrArg (fun z => some (AV.int .i64 z)) (by omega)) hfin
    · refine WK.seq ?_
      refine WK.seq ?_
      refine WK.region ?_
      refine WR.op rfl rfl rfl rfl ?_
      refine WR.op rfl rfl rfl rfl ?_
      refine WR.op rfl rfl (r_lss rfl rfl (iltb_F (by omega))) rfl ?_
      refine WR.nil ?_
      refine after.seq ?_
      refine WK.cond rfl (fun h => (by cases h)) (fun _ => ?_)
      refine WK.exit ?_
      refine after.seq_exit ?_
      refine after.seq_exit ?_
      refine after.exit ?_
      exact hfin _ _ (by rw [← revS_end (l := l) (i := i) (by omega)]; exact hrow)
theorem reverse_ok (hs : ∀ xs st, sum 164 xs st = none) {st0 st : St} {m f : Nat} {l : List Nat} (hl : l.length < 1000000) (hl1 : 1 ≤ l.length) (h : OwnRow st0 st m f l) : CallW (CS sum) 164 [.slc m 0 l.length none] st fun _ st' => OwnRow st0 st' m f l.reverse := by
  refine CallW.enter (hs _ _) Tryz.func164 body164 c164_of rfl ?_
  rw [nt164]
  unfold c164
  refine WK.seq ?_
  refine WK.region ?_
  refine WR.op rfl rfl rfl rfl ?_
  refine WR.op rfl rfl (r_lenS ⟨_, un55⟩ rfl) rfl ?_
  refine WR.op rfl rfl (r_arith ⟨by decide, by decide⟩ rfl rfl (sub_int (b := 1) (by omega) (by omega))) rfl ?_
  refine WR.op rfl rfl rfl rfl ?_
  refine WR.op rfl rfl rfl rfl ?_
  refine WR.nil ?_
  refine after.seq ?_
  refine WK.block ?_
  refine rev_loop hl l.length 0 (by omega) (by omega) hl1 _ (by rw [revS_zero]; exact h) _ rfl rfl (congrArg (fun z => some (AV.int .i64 z)) (by omega)) fun env2 st2 e1 => ?_
  exact ⟨normal_ne 0, normal_ne, [], (by rw [res164]; rfl), e1⟩
end Go.Proofs.Tz
