/- content.One. -/
import Derived.Test.YtjnahfpnehmehaaGreatDoorCnt2
import Derived.Test.YtjnahfpnehmehaaGreatDoorCnt4
namespace Go.Proofs.Tz
open Go Go.AE Go.RowKit Go.Proofs
set_option maxRecDepth 100000
variable {sum : FuncId → List AV → St → Option (AV × St)}
theorem fo60_0 : fieldOff Tryz.prog 60 0 = some 0 := by kernel_rfl
theorem fo60_1 : fieldOff Tryz.prog 60 1 = some 1 := by kernel_rfl
theorem fo60_2 : fieldOff Tryz.prog 60 2 = some 2 := by kernel_rfl
theorem fo60_3 : fieldOff Tryz.prog 60 3 = some 3 := by kernel_rfl
theorem by9' : bytesT Tryz.prog 9 = some 16 := by kernel_rfl
theorem ze9' : zeroT Tryz.prog 9 = some (.str []) := by kernel_rfl
def noneT : List UInt8 := [110, 111, 110, 101]
def itemV (k : Int) (t sep sty : List UInt8) : AV := .agg [.int .i64 k, .str t, .str sep, .str sty]
/-- All numbers' texts. -/
def allT (tx : Int → List UInt8) (sep : List UInt8) (vs : List Int) : List UInt8 := match vs with
  | [] => tx 0
  | v :: r => joinS sep ((v :: r).map tx)
/-- fleuron/content.One -/
def c24 : SC := (.seq (.region [⟨.box 60 (.tmp 2), some 5, none⟩, ⟨.assign (.const (.string ⟨#[]⟩)), some 6, none⟩])
  (.seq (.seq (.region [⟨.fieldAddr 60 (.tmp 5) 0, some 12, none⟩, ⟨.load 3 (.tmp 12), some 13, none⟩])
  (.block 0 (.seq (.region [⟨.binOp .eql 3 (.tmp 13) (.const (.int .i64 1)) 3, some 15, none⟩, ⟨.assign (.tmp 15), some 14, none⟩])
  (.cond (.tmp 14) (.seq (.region [⟨.fieldAddr 60 (.tmp 5) 1, some 16, none⟩, ⟨.load 9 (.tmp 16), some 17, none⟩, ⟨.assign (.tmp 17), some 6, none⟩])
  .ret) (.seq (.seq (.region [⟨.binOp .eql 3 (.tmp 13) (.const (.int .i64 3)) 3, some 19, none⟩, ⟨.assign (.tmp 19), some 18, none⟩])
  (.cond (.tmp 18) .skip (.region [⟨.binOp .eql 3 (.tmp 13) (.const (.int .i64 4)) 3, some 20, none⟩, ⟨.assign (.tmp 20), some 18, none⟩])))
  (.cond (.tmp 18) .skip (.seq (.region [⟨.assign (.const (.string ⟨#[]⟩)), some 6, none⟩])
  .ret)))))))
  (.seq (.seq (.region [⟨.fieldAddr 60 (.tmp 5) 3, some 21, none⟩, ⟨.load 9 (.tmp 21), some 22, none⟩, ⟨.binOp .eql 9 (.tmp 22) (.const (.string ⟨#[110, 111, 110, 101]⟩)) 9, some 23, none⟩])
  (.cond (.tmp 23) (.seq (.region [⟨.assign (.const (.string ⟨#[]⟩)), some 6, none⟩])
  .ret) .skip))
  (.seq (.region [⟨.move (.tmp 1), some 25, none⟩, ⟨.fieldAddr 60 (.tmp 5) 1, some 26, none⟩, ⟨.load 9 (.tmp 26), some 27, none⟩, ⟨.call ⟨.value (.func 51), #[(.tmp 25), (.tmp 27)], #[51, 9]⟩, some 28, none⟩, ⟨.move (.tmp 28), some 24, none⟩, ⟨.extract (.tmp 24) 0, some 29, none⟩, ⟨.extract (.tmp 24) 1, some 30, none⟩, ⟨.assign (.tmp 29), some 7, none⟩, ⟨.assign (.tmp 30), some 8, none⟩])
  (.seq (.seq (.region [⟨.fieldAddr 60 (.tmp 5) 0, some 31, none⟩, ⟨.load 3 (.tmp 31), some 32, none⟩, ⟨.binOp .eql 3 (.tmp 32) (.const (.int .i64 3)) 3, some 33, none⟩])
  (.cond (.tmp 33) (.seq (.region [⟨.move (.tmp 0), some 34, none⟩, ⟨.fieldAddr 60 (.tmp 5) 3, some 35, none⟩, ⟨.load 9 (.tmp 35), some 36, none⟩, ⟨.move (.tmp 7), some 37, none⟩, ⟨.call ⟨.value (.func 23), #[(.tmp 34), (.tmp 36), (.tmp 37)], #[36, 9, 3]⟩, some 38, none⟩, ⟨.assign (.tmp 38), some 6, none⟩])
  .ret) .skip))
  (.seq (.region [⟨.assign (.const (.slice none 0 0)), some 9, none⟩])
  (.seq (.seq (.region [⟨.move (.tmp 1), some 39, none⟩, ⟨.fieldAddr 60 (.tmp 5) 1, some 40, none⟩, ⟨.load 9 (.tmp 40), some 41, none⟩, ⟨.call ⟨.value (.func 52), #[(.tmp 39), (.tmp 41)], #[51, 9]⟩, some 42, none⟩, ⟨.call ⟨.builtin .len, #[(.tmp 42)], #[55]⟩, some 43, none⟩, ⟨.move (.const (.int .i64 0)), some 44, none⟩])
  (.block 1 (.loop (.seq (.region [⟨.binOp .lss 3 (.tmp 44) (.tmp 43) 3, some 45, none⟩])
  (.seq (.cond (.tmp 45) .skip (.exit 1))
  (.seq (.block 2 (.seq (.region [⟨.indexAddr 55 (.tmp 42) (.tmp 44), some 46, none⟩, ⟨.load 3 (.tmp 46), some 47, none⟩, ⟨.assign (.tmp 47), some 11, none⟩])
  (.region [⟨.move (.tmp 9), some 48, none⟩, ⟨.move (.tmp 0), some 49, none⟩, ⟨.fieldAddr 60 (.tmp 5) 3, some 50, none⟩, ⟨.load 9 (.tmp 50), some 51, none⟩, ⟨.move (.tmp 11), some 52, none⟩, ⟨.call ⟨.value (.func 23), #[(.tmp 49), (.tmp 51), (.tmp 52)], #[36, 9, 3]⟩, some 53, none⟩, ⟨.buildSlice 31 1 #[(0, (.tmp 53))], some 54, none⟩, ⟨.call ⟨.builtin .append, #[(.tmp 48), (.tmp 54)], #[31, 31]⟩, some 55, none⟩, ⟨.assign (.tmp 55), some 9, none⟩])))
  (.region [⟨.binOp .add 3 (.tmp 44) (.const (.int .i64 1)) 3, some 56, none⟩, ⟨.move (.tmp 56), some 44, none⟩])))))))
  (.seq (.seq (.region [⟨.move (.tmp 9), some 57, none⟩, ⟨.call ⟨.builtin .len, #[(.tmp 57)], #[31]⟩, some 58, none⟩, ⟨.binOp .eql 3 (.tmp 58) (.const (.int .i64 0)) 3, some 59, none⟩])
  (.cond (.tmp 59) (.seq (.region [⟨.move (.tmp 0), some 60, none⟩, ⟨.fieldAddr 60 (.tmp 5) 3, some 61, none⟩, ⟨.load 9 (.tmp 61), some 62, none⟩, ⟨.call ⟨.value (.func 23), #[(.tmp 60), (.tmp 62), (.const (.int .i64 0))], #[36, 9, 3]⟩, some 63, none⟩, ⟨.assign (.tmp 63), some 6, none⟩])
  .ret) .skip))
  (.seq (.region [⟨.move (.tmp 9), some 64, none⟩, ⟨.fieldAddr 60 (.tmp 5) 2, some 65, none⟩, ⟨.load 9 (.tmp 65), some 66, none⟩, ⟨.call ⟨.value (.func 53), #[(.tmp 64), (.tmp 66)], #[31, 9]⟩, some 67, none⟩, ⟨.assign (.tmp 67), some 6, none⟩])
  .ret)))))))))
theorem c24_of : SC.of Tryz.f24.body.get! = c24 := by kernel_rfl
theorem body24 : Tryz.f24.body = some (Tryz.f24.body.get!) := by kernel_rfl
theorem nt24 : Tryz.f24.ntmps = 68 := by kernel_rfl
theorem res24 : Tryz.f24.results.toList = [.tmp 6] := by kernel_rfl
def c24loop : SC := (.loop (.seq (.region [⟨.binOp .lss 3 (.tmp 44) (.tmp 43) 3, some 45, none⟩])
  (.seq (.cond (.tmp 45) .skip (.exit 1))
  (.seq (.block 2 (.seq (.region [⟨.indexAddr 55 (.tmp 42) (.tmp 44), some 46, none⟩, ⟨.load 3 (.tmp 46), some 47, none⟩, ⟨.assign (.tmp 47), some 11, none⟩])
  (.region [⟨.move (.tmp 9), some 48, none⟩, ⟨.move (.tmp 0), some 49, none⟩, ⟨.fieldAddr 60 (.tmp 5) 3, some 50, none⟩, ⟨.load 9 (.tmp 50), some 51, none⟩, ⟨.move (.tmp 11), some 52, none⟩, ⟨.call ⟨.value (.func 23), #[(.tmp 49), (.tmp 51), (.tmp 52)], #[36, 9, 3]⟩, some 53, none⟩, ⟨.buildSlice 31 1 #[(0, (.tmp 53))], some 54, none⟩, ⟨.call ⟨.builtin .append, #[(.tmp 48), (.tmp 54)], #[31, 31]⟩, some 55, none⟩, ⟨.assign (.tmp 55), some 9, none⟩])))
  (.region [⟨.binOp .add 3 (.tmp 44) (.const (.int .i64 1)) 3, some 56, none⟩, ⟨.move (.tmp 56), some 44, none⟩])))))
theorem one_words (hs : ∀ xs st, sum 24 xs st = none) (r x : AV) (t sep sty : List UInt8) (st : St) : CallW (CS sum) 24 [r, x, itemV 1 t sep sty] st fun v st' => v = .str t ∧ Ext st st' := by
  have hb : (st.push (boxO 60 (itemV 1 t sep sty))).heap.get st.next = some (boxO 60 (itemV 1 t sep sty)) := push_self _ _
  have hx1 : Ext st (st.push (boxO 60 (itemV 1 t sep sty))) := (Ext.refl st).push _
  have hn1 : (st.push (boxO 60 (itemV 1 t sep sty))).next = st.next + 1 := push_next _ _
  refine CallW.enter (hs _ _) Tryz.func24 body24 c24_of rfl ?_
  rw [nt24]
  unfold c24
  refine WK.seq ?_
  refine WK.region ?_
  refine WR.op rfl rfl (r_box rfl rfl) rfl ?_
  refine WR.op rfl rfl rfl rfl ?_
  refine WR.nil ?_
  refine after.seq ?_
  refine WK.seq ?_
  refine WK.seq ?_
  refine WK.region ?_
  refine WR.op rfl rfl (r_fa fo60_0 rfl) rfl ?_
  refine WR.op rfl rfl (r_ld agg3 rfl hb rfl) rfl ?_
  refine WR.nil ?_
  refine after.seq ?_
  refine WK.block ?_
  refine WK.seq ?_
  refine WK.region ?_
  refine WR.op rfl rfl (r_eql rfl rfl (q := true) rfl) rfl ?_
  refine WR.op rfl rfl rfl rfl ?_
  refine WR.nil ?_
  refine after.seq ?_
  refine WK.cond rfl (fun _ => ?_) (fun h => (by cases h))
  refine WK.seq ?_
  refine WK.region ?_
  refine WR.op rfl rfl (r_fa fo60_1 rfl) rfl ?_
  refine WR.op rfl rfl (r_ld agg9 rfl hb rfl) rfl ?_
  refine WR.op rfl rfl rfl rfl ?_
  refine WR.nil ?_
  refine after.seq ?_
  refine WK.ret ?_
  refine after.block_ret ?_
  refine after.seq_ret ?_
  exact ⟨ret_ne 0, ret_ne, [.str t], (by rw [res24]; rfl), rfl, hx1⟩
theorem one_open (hs : ∀ xs st, sum 24 xs st = none) (r x : AV) (t sep sty : List UInt8) (st : St) : CallW (CS sum) 24 [r, x, itemV 5 t sep sty] st fun v st' => v = .str [] ∧ Ext st st' := by
  have hb : (st.push (boxO 60 (itemV 5 t sep sty))).heap.get st.next = some (boxO 60 (itemV 5 t sep sty)) := push_self _ _
  have hx1 : Ext st (st.push (boxO 60 (itemV 5 t sep sty))) := (Ext.refl st).push _
  have hn1 : (st.push (boxO 60 (itemV 5 t sep sty))).next = st.next + 1 := push_next _ _
  refine CallW.enter (hs _ _) Tryz.func24 body24 c24_of rfl ?_
  rw [nt24]
  unfold c24
  refine WK.seq ?_
  refine WK.region ?_
  refine WR.op rfl rfl (r_box rfl rfl) rfl ?_
  refine WR.op rfl rfl rfl rfl ?_
  refine WR.nil ?_
  refine after.seq ?_
  refine WK.seq ?_
  refine WK.seq ?_
  refine WK.region ?_
  refine WR.op rfl rfl (r_fa fo60_0 rfl) rfl ?_
  refine WR.op rfl rfl (r_ld agg3 rfl hb rfl) rfl ?_
  refine WR.nil ?_
  refine after.seq ?_
  refine WK.block ?_
  refine WK.seq ?_
  refine WK.region ?_
  refine WR.op rfl rfl (r_eql rfl rfl (q := false) rfl) rfl ?_
  refine WR.op rfl rfl rfl rfl ?_
  refine WR.nil ?_
  refine after.seq ?_
  refine WK.cond rfl (fun h => (by cases h)) (fun _ => ?_)
  refine WK.seq ?_
  refine WK.seq ?_
  refine WK.region ?_
  refine WR.op rfl rfl (r_eql rfl rfl (q := false) rfl) rfl ?_
  refine WR.op rfl rfl rfl rfl ?_
  refine WR.nil ?_
  refine after.seq ?_
  refine WK.cond rfl (fun h => (by cases h)) (fun _ => ?_)
  refine WK.region ?_
  refine WR.op rfl rfl (r_eql rfl rfl (q := false) rfl) rfl ?_
  refine WR.op rfl rfl rfl rfl ?_
  refine WR.nil ?_
  refine after.seq ?_
  refine WK.cond rfl (fun h => (by cases h)) (fun _ => ?_)
  refine WK.seq ?_
  refine WK.region ?_
  refine WR.op rfl rfl rfl rfl ?_
  refine WR.nil ?_
  refine after.seq ?_
  refine WK.ret ?_
  refine after.block_ret ?_
  refine after.seq_ret ?_
  exact ⟨ret_ne 0, ret_ne, [.str []], (by rw [res24]; rfl), rfl, hx1⟩
theorem one_none3 (hs : ∀ xs st, sum 24 xs st = none) (r x : AV) (t sep : List UInt8) (st : St) : CallW (CS sum) 24 [r, x, itemV 3 t sep noneT] st fun v st' => v = .str [] ∧ Ext st st' := by
  have hb : (st.push (boxO 60 (itemV 3 t sep noneT))).heap.get st.next = some (boxO 60 (itemV 3 t sep noneT)) := push_self _ _
  have hx1 : Ext st (st.push (boxO 60 (itemV 3 t sep noneT))) := (Ext.refl st).push _
  have hn1 : (st.push (boxO 60 (itemV 3 t sep noneT))).next = st.next + 1 := push_next _ _
  refine CallW.enter (hs _ _) Tryz.func24 body24 c24_of rfl ?_
  rw [nt24]
  unfold c24
  refine WK.seq ?_
  refine WK.region ?_
  refine WR.op rfl rfl (r_box rfl rfl) rfl ?_
  refine WR.op rfl rfl rfl rfl ?_
  refine WR.nil ?_
  refine after.seq ?_
  refine WK.seq ?_
  refine WK.seq ?_
  refine WK.region ?_
  refine WR.op rfl rfl (r_fa fo60_0 rfl) rfl ?_
  refine WR.op rfl rfl (r_ld agg3 rfl hb rfl) rfl ?_
  refine WR.nil ?_
  refine after.seq ?_
  refine WK.block ?_
  refine WK.seq ?_
  refine WK.region ?_
  refine WR.op rfl rfl (r_eql rfl rfl (q := false) rfl) rfl ?_
  refine WR.op rfl rfl rfl rfl ?_
  refine WR.nil ?_
  refine after.seq ?_
  refine WK.cond rfl (fun h => (by cases h)) (fun _ => ?_)
  refine WK.seq ?_
  refine WK.seq ?_
  refine WK.region ?_
  refine WR.op rfl rfl (r_eql rfl rfl (q := true) rfl) rfl ?_
  refine WR.op rfl rfl rfl rfl ?_
  refine WR.nil ?_
  refine after.seq ?_
  refine WK.cond rfl (fun _ => ?_) (fun h => (by cases h))
  refine WK.skip ?_
  refine after.seq ?_
  refine WK.cond rfl (fun _ => ?_) (fun h => (by cases h))
  refine WK.skip ?_
  refine after.block ?_
  refine after.seq ?_
  refine WK.seq ?_
  refine WK.seq ?_
  refine WK.region ?_
  refine WR.op rfl rfl (r_fa fo60_3 rfl) rfl ?_
  refine WR.op rfl rfl (r_ld agg9 rfl hb rfl) rfl ?_
  refine WR.op rfl rfl (r_seql rfl rfl (q := true) rfl) rfl ?_
  refine WR.nil ?_
  refine after.seq ?_
  refine WK.cond rfl (fun _ => ?_) (fun h => (by cases h))
  refine WK.seq ?_
  refine WK.region ?_
  refine WR.op rfl rfl rfl rfl ?_
  refine WR.nil ?_
  refine after.seq ?_
  refine WK.ret ?_
  refine after.seq_ret ?_
  exact ⟨ret_ne 0, ret_ne, [.str []], (by rw [res24]; rfl), rfl, hx1⟩
theorem one_none4 (hs : ∀ xs st, sum 24 xs st = none) (r x : AV) (t sep : List UInt8) (st : St) : CallW (CS sum) 24 [r, x, itemV 4 t sep noneT] st fun v st' => v = .str [] ∧ Ext st st' := by
  have hb : (st.push (boxO 60 (itemV 4 t sep noneT))).heap.get st.next = some (boxO 60 (itemV 4 t sep noneT)) := push_self _ _
  have hx1 : Ext st (st.push (boxO 60 (itemV 4 t sep noneT))) := (Ext.refl st).push _
  have hn1 : (st.push (boxO 60 (itemV 4 t sep noneT))).next = st.next + 1 := push_next _ _
  refine CallW.enter (hs _ _) Tryz.func24 body24 c24_of rfl ?_
  rw [nt24]
  unfold c24
  refine WK.seq ?_
  refine WK.region ?_
  refine WR.op rfl rfl (r_box rfl rfl) rfl ?_
  refine WR.op rfl rfl rfl rfl ?_
  refine WR.nil ?_
  refine after.seq ?_
  refine WK.seq ?_
  refine WK.seq ?_
  refine WK.region ?_
  refine WR.op rfl rfl (r_fa fo60_0 rfl) rfl ?_
  refine WR.op rfl rfl (r_ld agg3 rfl hb rfl) rfl ?_
  refine WR.nil ?_
  refine after.seq ?_
  refine WK.block ?_
  refine WK.seq ?_
  refine WK.region ?_
  refine WR.op rfl rfl (r_eql rfl rfl (q := false) rfl) rfl ?_
  refine WR.op rfl rfl rfl rfl ?_
  refine WR.nil ?_
  refine after.seq ?_
  refine WK.cond rfl (fun h => (by cases h)) (fun _ => ?_)
  refine WK.seq ?_
  refine WK.seq ?_
  refine WK.region ?_
  refine WR.op rfl rfl (r_eql rfl rfl (q := false) rfl) rfl ?_
  refine WR.op rfl rfl rfl rfl ?_
  refine WR.nil ?_
  refine after.seq ?_
  refine WK.cond rfl (fun h => (by cases h)) (fun _ => ?_)
  refine WK.region ?_
  refine WR.op rfl rfl (r_eql rfl rfl (q := true) rfl) rfl ?_
  refine WR.op rfl rfl rfl rfl ?_
  refine WR.nil ?_
  refine after.seq ?_
  refine WK.cond rfl (fun _ => ?_) (fun h => (by cases h))
  refine WK.skip ?_
  refine after.block ?_
  refine after.seq ?_
  refine WK.seq ?_
  refine WK.seq ?_
  refine WK.region ?_
  refine WR.op rfl rfl (r_fa fo60_3 rfl) rfl ?_
  refine WR.op rfl rfl (r_ld agg9 rfl hb rfl) rfl ?_
  refine WR.op rfl rfl (r_seql rfl rfl (q := true) rfl) rfl ?_
  refine WR.nil ?_
  refine after.seq ?_
  refine WK.cond rfl (fun _ => ?_) (fun h => (by cases h))
  refine WK.seq ?_
  refine WK.region ?_
  refine WR.op rfl rfl rfl rfl ?_
  refine WR.nil ?_
  refine after.seq ?_
  refine WK.ret ?_
  refine after.seq_ret ?_
  exact ⟨ret_ne 0, ret_ne, [.str []], (by rw [res24]; rfl), rfl, hx1⟩
theorem one_counter (hs : ∀ f ∈ [24, 51, 84, 126], ∀ xs st, sum f xs st = none) {r x : AV} {cs : List Ctr} {t sty : List UInt8} {u : List UInt8} {st : St} (sep : List UInt8) (hlen : cs.length < 1000000) (hx : Els st x 4 (cs.map Ctr.cells)) (hxp : x.plain = true) (hxc : x.cells = [x]) (hsty : eqL sty noneT = false)
    (hT : ∀ st', Ext st st' → CallW (CS sum) 23 [r, .str sty, .int .i64 (valN cs t)] st' fun v st2 => v = .str u ∧ Ext st' st2) :
    CallW (CS sum) 24 [r, x, itemV 3 t sep sty] st fun v st' => v = .str u ∧ Ext st st' := by
  have hb : (st.push (boxO 60 (itemV 3 t sep sty))).heap.get st.next = some (boxO 60 (itemV 3 t sep sty)) := push_self _ _
  have hx1 : Ext st (st.push (boxO 60 (itemV 3 t sep sty))) := (Ext.refl st).push _
  have hn1 : (st.push (boxO 60 (itemV 3 t sep sty))).next = st.next + 1 := push_next _ _
  refine CallW.enter (hs 24 (by simp) _ _) Tryz.func24 body24 c24_of rfl ?_
  rw [nt24]
  unfold c24
  refine WK.seq ?_
  refine WK.region ?_
  refine WR.op rfl rfl (r_box rfl rfl) rfl ?_
  refine WR.op rfl rfl rfl rfl ?_
  refine WR.nil ?_
  refine after.seq ?_
  refine WK.seq ?_
  refine WK.seq ?_
  refine WK.region ?_
  refine WR.op rfl rfl (r_fa fo60_0 rfl) rfl ?_
  refine WR.op rfl rfl (r_ld agg3 rfl hb rfl) rfl ?_
  refine WR.nil ?_
  refine after.seq ?_
  refine WK.block ?_
  refine WK.seq ?_
  refine WK.region ?_
  refine WR.op rfl rfl (r_eql rfl rfl (q := false) rfl) rfl ?_
  refine WR.op rfl rfl rfl rfl ?_
  refine WR.nil ?_
  refine after.seq ?_
  refine WK.cond rfl (fun h => (by cases h)) (fun _ => ?_)
  refine WK.seq ?_
  refine WK.seq ?_
  refine WK.region ?_
  refine WR.op rfl rfl (r_eql rfl rfl (q := true) rfl) rfl ?_
  refine WR.op rfl rfl rfl rfl ?_
  refine WR.nil ?_
  refine after.seq ?_
  refine WK.cond rfl (fun _ => ?_) (fun h => (by cases h))
  refine WK.skip ?_
  refine after.seq ?_
  refine WK.cond rfl (fun _ => ?_) (fun h => (by cases h))
  refine WK.skip ?_
  refine after.block ?_
  refine after.seq ?_
  refine WK.seq ?_
  refine WK.seq ?_
  refine WK.region ?_
  refine WR.op rfl rfl (r_fa fo60_3 rfl) rfl ?_
  refine WR.op rfl rfl (r_ld agg9 rfl hb rfl) rfl ?_
  refine WR.op rfl rfl (r_seql rfl rfl hsty) rfl ?_
  refine WR.nil ?_
  refine after.seq ?_
  refine WK.cond rfl (fun h => (by cases h)) (fun _ => ?_)
  refine WK.skip ?_
  refine after.seq ?_
  refine WK.seq ?_
  refine WK.region ?_
  refine WR.op rfl rfl rfl rfl ?_
  refine WR.op rfl rfl (r_fa fo60_1 rfl) rfl ?_
  refine WR.op rfl rfl (r_ld agg9 rfl hb rfl) rfl ?_
  refine WR.call (f := 51) («as» := [x, .str t]) rfl (.inl rfl) rfl rfl rfl rfl ((value_ok (fun f hf => hs f (by revert f; decide)) hlen (hx.ext hx1) hxp hxc).mono ?_)
  rintro v1 st1 ⟨⟨bb, rfl⟩, k1⟩
  have hb1 := (k1.heap st.next (by omega)).trans hb
  have hx2 := hx1.trans k1
  refine WR.op rfl rfl rfl rfl ?_
  refine WR.op rfl rfl rfl rfl ?_
  refine WR.op rfl rfl rfl rfl ?_
  refine WR.op rfl rfl rfl rfl ?_
  refine WR.op rfl rfl rfl rfl ?_
  refine WR.nil ?_
  refine after.seq ?_
  refine WK.seq ?_
  refine WK.seq ?_
  refine WK.region ?_
  refine WR.op rfl rfl (r_fa fo60_0 rfl) rfl ?_
  refine WR.op rfl rfl (r_ld agg3 rfl hb1 rfl) rfl ?_
  refine WR.op rfl rfl (r_eql rfl rfl (q := true) rfl) rfl ?_
  refine WR.nil ?_
  refine after.seq ?_
  refine WK.cond rfl (fun _ => ?_) (fun h => (by cases h))
  refine WK.seq ?_
  refine WK.region ?_
  refine WR.op rfl rfl rfl rfl ?_
  refine WR.op rfl rfl (r_fa fo60_3 rfl) rfl ?_
  refine WR.op rfl rfl (r_ld agg9 rfl hb1 rfl) rfl ?_
  refine WR.op rfl rfl rfl rfl ?_
  refine WR.call (f := 23) («as» := [r, .str sty, .int .i64 (valN cs t)]) rfl (.inl rfl) rfl rfl rfl rfl ((hT st1 hx2).mono ?_)
  rintro v2 st2 ⟨rfl, k2⟩
  refine WR.op rfl rfl rfl rfl ?_
  refine WR.nil ?_
  refine after.seq ?_
  refine WK.ret ?_
  refine after.seq_ret ?_
  exact ⟨ret_ne 0, ret_ne, [.str u], (by rw [res24]; rfl), rfl, hx2.trans k2⟩
theorem one_loop {r x : AV} {tx : Int → List UInt8} {t sep sty : List UInt8} {vs : List Int} {f0 b : Nat} {stE st0 : St} (hE : Ext stE st0) (hb0 : st0.heap.get b = some (boxO 60 (itemV 4 t sep sty))) (hbl : b < st0.next) (hv : IsRow st0 x f0 3 1 (vs.map intZ)) (hlen : vs.length ≤ 1000)
    (hT : ∀ n ∈ vs, ∀ st', Ext stE st' → CallW (CS sum) 23 [r, .str sty, .int .i64 n] st' fun v st2 => v = .str (tx n) ∧ Ext st' st2) {ks : List Kont} {Q : Post3} : ∀ (q pre : List Int), pre ++ q = vs → ∀ (y : AV) (f : Nat) (st : St), IsRow st y f 9 1 ((pre.map tx).map txC) → Ext st0 st → (y = .nils ∨ st0.next ≤ f) →
    ∀ env, lookE 0 env = some r → lookE 5 env = some (.ptr b 0) → lookE 9 env = some y → lookE 42 env = some x → lookE 43 env = some (.int .i64 (vs.length : Int)) → lookE 44 env = some (.int .i64 (pre.length : Int)) →
    (∀ env' st2 y' f', lookE 0 env' = some r → lookE 5 env' = some (.ptr b 0) → lookE 9 env' = some y' → IsRow st2 y' f' 9 1 ((vs.map tx).map txC) → Ext st0 st2 → after (CS sum) 68 none ks Q .normal env' st2) →
    WK (CS sum) 68 none c24loop (.block 1 :: ks) env st Q := by
  intro q
  induction q with
  | nil =>
    intro pre hpre y f st hrow hext hf env h0 h5 h9 h42 h43 h44 hfin
    have hpl : pre = vs := by rw [← hpre, List.append_nil]
    refine WK.sub [(0, r), (5, .ptr b 0), (9, y), (42, x), (43, .int .i64 (vs.length : Int)), (44, .int .i64 (pre.length : Int))] ?_ ?_
    · intro t v ht
      simp only [lookE_cons] at ht
      by_cases e0 : t = 0
      · rw [if_pos e0] at ht; subst e0; rw [h0]; exact ht
      rw [if_neg e0] at ht
      by_cases e5 : t = 5
      · rw [if_pos e5] at ht; subst e5; rw [h5]; exact ht
      rw [if_neg e5] at ht
      by_cases e9 : t = 9
      · rw [if_pos e9] at ht; subst e9; rw [h9]; exact ht
      rw [if_neg e9] at ht
      by_cases e42 : t = 42
      · rw [if_pos e42] at ht; subst e42; rw [h42]; exact ht
      rw [if_neg e42] at ht
      by_cases e43 : t = 43
      · rw [if_pos e43] at ht; subst e43; rw [h43]; exact ht
      rw [if_neg e43] at ht
      by_cases e44 : t = 44
      · rw [if_pos e44] at ht; subst e44; rw [h44]; exact ht
      rw [if_neg e44] at ht
      cases ht
    unfold c24loop
    refine WK.loop ?_
    refine WK.seq ?_
    refine WK.region ?_
    refine WR.op rfl rfl (r_lss rfl rfl (iltb_F (by rw [hpl]; omega))) rfl ?_
    refine WR.nil ?_
    refine after.seq ?_
    refine WK.seq ?_
    refine WK.cond rfl (fun h => (by cases h)) (fun _ => ?_)
    refine WK.exit ?_
    refine after.seq_exit ?_
    refine after.seq_exit ?_
    refine after.exit ?_
    exact hfin _ _ y f rfl rfl rfl (by rw [← hpl]; exact hrow) hext
  | cons n q ih =>
    intro pre hpre y f st hrow hext hf env h0 h5 h9 h42 h43 h44 hfin
    have hpl : vs.length = pre.length + (q.length + 1) := by rw [← hpre]; simp
    have hml : (vs.map intZ).length = vs.length := List.length_map _
    obtain ⟨mm, off, hia, hla⟩ := (hv.ext hext).els.at (n := pre.length) un55 sz3 (by omega)
    have hget : (vs.map intZ)[pre.length]? = some (intZ n) := by rw [List.getElem?_map, ← hpre]; simp
    have hb := (hext.heap b hbl).trans hb0
    refine WK.sub [(0, r), (5, .ptr b 0), (9, y), (42, x), (43, .int .i64 (vs.length : Int)), (44, .int .i64 (pre.length : Int))] ?_ ?_
    · intro t v ht
      simp only [lookE_cons] at ht
      by_cases e0 : t = 0
      · rw [if_pos e0] at ht; subst e0; rw [h0]; exact ht
      rw [if_neg e0] at ht
      by_cases e5 : t = 5
      · rw [if_pos e5] at ht; subst e5; rw [h5]; exact ht
      rw [if_neg e5] at ht
      by_cases e9 : t = 9
      · rw [if_pos e9] at ht; subst e9; rw [h9]; exact ht
      rw [if_neg e9] at ht
      by_cases e42 : t = 42
      · rw [if_pos e42] at ht; subst e42; rw [h42]; exact ht
      rw [if_neg e42] at ht
      by_cases e43 : t = 43
      · rw [if_pos e43] at ht; subst e43; rw [h43]; exact ht
      rw [if_neg e43] at ht
      by_cases e44 : t = 44
      · rw [if_pos e44] at ht; subst e44; rw [h44]; exact ht
      rw [if_neg e44] at ht
      cases ht
    unfold c24loop
    refine WK.loop ?_
    refine WK.seq ?_
    refine WK.region ?_
    refine WR.op rfl rfl (r_lss rfl rfl (iltb_T (by omega))) rfl ?_
    refine WR.nil ?_
    refine after.seq ?_
    refine WK.seq ?_
    refine WK.cond rfl (fun _ => ?_) (fun h => (by cases h))
    refine WK.skip ?_
    refine after.seq ?_
    refine WK.seq ?_
    refine WK.block ?_
    refine WK.seq ?_
    refine WK.region ?_
    refine WR.op rfl rfl (hia rfl rfl) rfl ?_
    refine WR.op rfl rfl ((hla _ hget rfl _ _ _ rfl).1 agg3 _ rfl) rfl ?_
    refine WR.op rfl rfl rfl rfl ?_
    refine WR.nil ?_
    refine after.seq ?_
    refine WK.region ?_
    refine WR.op rfl rfl rfl rfl ?_
    refine WR.op rfl rfl rfl rfl ?_
    refine WR.op rfl rfl (r_fa fo60_3 rfl) rfl ?_
    refine WR.op rfl rfl (r_ld agg9 rfl hb rfl) rfl ?_
    refine WR.op rfl rfl rfl rfl ?_
    refine WR.call (f := 23) («as» := [r, .str sty, .int .i64 n]) rfl (.inl rfl) rfl rfl rfl rfl ((hT n (by rw [← hpre]; simp) st (hE.trans hext)).mono ?_)
    rintro v1 st1 ⟨rfl, k1⟩
    refine WR.app1 (st0 := st0) un31 sz9 by9' rfl rfl ze9' rfl rfl rfl rfl rfl rfl (hrow.ext k1) (hext.trans k1) hf (by rw [List.length_map, List.length_map]; omega) ?_
    intro y2 st3 f2 hrow2 hext2 hf2 _ _ _
    refine WR.op rfl rfl rfl rfl ?_
    refine WR.nil ?_
    refine after.block ?_
    refine after.seq ?_
    refine WK.region ?_
    refine WR.op rfl rfl (r_arith ⟨by decide, by decide⟩ rfl rfl (add_nat (b := 1) (by omega))) rfl ?_
    refine WR.op rfl rfl rfl rfl ?_
    refine WR.nil ?_
    refine after.seq ?_
    exact ih (pre ++ [n]) (by rw [← hpre]; simp) y2 f2 st3 (by rw [List.map_append, List.map_append]; exact hrow2) hext2 (.inr hf2) _ rfl rfl rfl rfl rfl (by rw [List.length_append]; rfl) hfin
theorem one_counters (hs : ∀ f ∈ [24, 51, 84, 126, 52, 53, 42, 43, 77, 117, 82, 125, 165], ∀ xs st, sum f xs st = none) {r x : AV} {cs : List Ctr} {t sep sty : List UInt8} {tx : Int → List UInt8} {st : St} (hlen : cs.length ≤ 800) (hsep : sep.length ≤ 100) (hx : Els st x 4 (cs.map Ctr.cells)) (hxp : x.plain = true) (hxc : x.cells = [x]) (hsty : eqL sty noneT = false)
    (hvl : (valsN t cs).length ≤ cs.length) (htx : ∀ n ∈ valsN t cs, tx n ≠ [] ∧ (tx n).length ≤ 1000)
    (hT : ∀ n, n = 0 ∨ n ∈ valsN t cs → ∀ st', Ext st st' → CallW (CS sum) 23 [r, .str sty, .int .i64 n] st' fun v st2 => v = .str (tx n) ∧ Ext st' st2) :
    CallW (CS sum) 24 [r, x, itemV 4 t sep sty] st fun v st' => v = .str (allT tx sep (valsN t cs)) ∧ Ext st st' := by
  obtain ⟨vs, hvs⟩ : ∃ vs, vs = valsN t cs := ⟨_, rfl⟩
  rw [← hvs] at htx hT hvl ⊢
  have hb : (st.push (boxO 60 (itemV 4 t sep sty))).heap.get st.next = some (boxO 60 (itemV 4 t sep sty)) := push_self _ _
  have hx1 : Ext st (st.push (boxO 60 (itemV 4 t sep sty))) := (Ext.refl st).push _
  have hn1 : (st.push (boxO 60 (itemV 4 t sep sty))).next = st.next + 1 := push_next _ _
  cases hc : vs with
  | nil =>
    refine CallW.enter (hs 24 (by simp) _ _) Tryz.func24 body24 c24_of rfl ?_
    rw [nt24]
    unfold c24
    refine WK.seq ?_
    refine WK.region ?_
    refine WR.op rfl rfl (r_box rfl rfl) rfl ?_
    refine WR.op rfl rfl rfl rfl ?_
    refine WR.nil ?_
    refine after.seq ?_
    refine WK.seq ?_
    refine WK.seq ?_
    refine WK.region ?_
    refine WR.op rfl rfl (r_fa fo60_0 rfl) rfl ?_
    refine WR.op rfl rfl (r_ld agg3 rfl hb rfl) rfl ?_
    refine WR.nil ?_
    refine after.seq ?_
    refine WK.block ?_
    refine WK.seq ?_
    refine WK.region ?_
    refine WR.op rfl rfl (r_eql rfl rfl (q := false) rfl) rfl ?_
    refine WR.op rfl rfl rfl rfl ?_
    refine WR.nil ?_
    refine after.seq ?_
    refine WK.cond rfl (fun h => (by cases h)) (fun _ => ?_)
    refine WK.seq ?_
    refine WK.seq ?_
    refine WK.region ?_
    refine WR.op rfl rfl (r_eql rfl rfl (q := false) rfl) rfl ?_
    refine WR.op rfl rfl rfl rfl ?_
    refine WR.nil ?_
    refine after.seq ?_
    refine WK.cond rfl (fun h => (by cases h)) (fun _ => ?_)
    refine WK.region ?_
    refine WR.op rfl rfl (r_eql rfl rfl (q := true) rfl) rfl ?_
    refine WR.op rfl rfl rfl rfl ?_
    refine WR.nil ?_
    refine after.seq ?_
    refine WK.cond rfl (fun _ => ?_) (fun h => (by cases h))
    refine WK.skip ?_
    refine after.block ?_
    refine after.seq ?_
    refine WK.seq ?_
    refine WK.seq ?_
    refine WK.region ?_
    refine WR.op rfl rfl (r_fa fo60_3 rfl) rfl ?_
    refine WR.op rfl rfl (r_ld agg9 rfl hb rfl) rfl ?_
    refine WR.op rfl rfl (r_seql rfl rfl hsty) rfl ?_
    refine WR.nil ?_
    refine after.seq ?_
    refine WK.cond rfl (fun h => (by cases h)) (fun _ => ?_)
    refine WK.skip ?_
    refine after.seq ?_
    refine WK.seq ?_
    refine WK.region ?_
    refine WR.op rfl rfl rfl rfl ?_
    refine WR.op rfl rfl (r_fa fo60_1 rfl) rfl ?_
    refine WR.op rfl rfl (r_ld agg9 rfl hb rfl) rfl ?_
    refine WR.call (f := 51) («as» := [x, .str t]) rfl (.inl rfl) rfl rfl rfl rfl ((value_ok (fun f hf => hs f (by revert f; decide)) (by omega) (hx.ext hx1) hxp hxc).mono ?_)
    rintro v1 st1 ⟨⟨bb, rfl⟩, k1⟩
    have hb1 := (k1.heap st.next (by omega)).trans hb
    have hx2 := hx1.trans k1
    refine WR.op rfl rfl rfl rfl ?_
    refine WR.op rfl rfl rfl rfl ?_
    refine WR.op rfl rfl rfl rfl ?_
    refine WR.op rfl rfl rfl rfl ?_
    refine WR.op rfl rfl rfl rfl ?_
    refine WR.nil ?_
    refine after.seq ?_
    refine WK.seq ?_
    refine WK.seq ?_
    refine WK.region ?_
    refine WR.op rfl rfl (r_fa fo60_0 rfl) rfl ?_
    refine WR.op rfl rfl (r_ld agg3 rfl hb1 rfl) rfl ?_
    refine WR.op rfl rfl (r_eql rfl rfl (q := false) rfl) rfl ?_
    refine WR.nil ?_
    refine after.seq ?_
    refine WK.cond rfl (fun h => (by cases h)) (fun _ => ?_)
    refine WK.skip ?_
    refine after.seq ?_
    refine WK.seq ?_
    refine WK.region ?_
    refine WR.op rfl rfl rfl rfl ?_
    refine WR.nil ?_
    refine after.seq ?_
    refine WK.seq ?_
    refine WK.seq ?_
    refine WK.region ?_
    refine WR.op rfl rfl rfl rfl ?_
    refine WR.op rfl rfl (r_fa fo60_1 rfl) rfl ?_
    refine WR.op rfl rfl (r_ld agg9 rfl hb1 rfl) rfl ?_
    refine WR.call (f := 52) («as» := [x, .str t]) rfl (.inl rfl) rfl rfl rfl rfl ((values_ok (hs 52 (by simp)) (by omega) (hx.ext hx2)).mono ?_)
    rintro v2 st2 ⟨⟨fv, hrow⟩, k2⟩
    rw [← hvs] at hrow
    have hb2 := (k2.heap st.next (by have := k1.nx; omega)).trans hb1
    have hx3 := hx2.trans k2
    refine WR.op rfl rfl (v := .int .i64 (vs.length : Int)) ((r_lenE ⟨_, un55⟩ rfl hrow.els).trans (by rw [List.length_map])) rfl ?_
    refine WR.op rfl rfl rfl rfl ?_
    refine WR.nil ?_
    refine after.seq ?_
    refine WK.block ?_
    refine one_loop hx3 hb2 (Nat.lt_of_lt_of_le (Nat.lt_of_lt_of_le (by omega) k1.nx) k2.nx) hrow (by omega) (fun n hn st' hE => hT n (.inr hn) st' hE) vs [] rfl .nils 0 _ (.inl ⟨rfl, rfl⟩) (Ext.refl st2) (.inl rfl) _ rfl rfl rfl rfl rfl rfl fun env3 st3 y3 f3 g0 g5 g9 hrow3 hext3 => ?_
    have hb3 := (hext3.heap st.next (by have := k1.nx; have := k2.nx; omega)).trans hb2
    have hx4 := hx3.trans hext3
    refine after.seq ?_
    refine WK.sub [(0, r), (5, .ptr st.next 0), (9, y3)] ?_ ?_
    · intro t v ht
      simp only [lookE_cons] at ht
      by_cases e0 : t = 0
      · rw [if_pos e0] at ht; subst e0; rw [g0]; exact ht
      rw [if_neg e0] at ht
      by_cases e5 : t = 5
      · rw [if_pos e5] at ht; subst e5; rw [g5]; exact ht
      rw [if_neg e5] at ht
      by_cases e9 : t = 9
      · rw [if_pos e9] at ht; subst e9; rw [g9]; exact ht
      rw [if_neg e9] at ht
      cases ht
    refine WK.seq ?_
    refine WK.seq ?_
    refine WK.region ?_
    refine WR.op rfl rfl rfl rfl ?_
    refine WR.op rfl rfl (v := .int .i64 (vs.length : Int)) ((r_lenE ⟨_, un31⟩ rfl hrow3.els).trans (by rw [List.length_map, List.length_map])) rfl ?_
    refine WR.op rfl rfl (r_eql rfl rfl (q := true) (by rw [hc]; rfl)) rfl ?_
    refine WR.nil ?_
    refine after.seq ?_
    refine WK.cond rfl (fun _ => ?_) (fun h => (by cases h))
    refine WK.seq ?_
    refine WK.region ?_
    refine WR.op rfl rfl rfl rfl ?_
    refine WR.op rfl rfl (r_fa fo60_3 rfl) rfl ?_
    refine WR.op rfl rfl (r_ld agg9 rfl hb3 rfl) rfl ?_
    refine WR.call (f := 23) («as» := [r, .str sty, .int .i64 0]) rfl (.inl rfl) rfl rfl rfl rfl ((hT 0 (.inl rfl) st3 hx4).mono ?_)
    rintro v4 st4 ⟨rfl, k4⟩
    refine WR.op rfl rfl rfl rfl ?_
    refine WR.nil ?_
    refine after.seq ?_
    refine WK.ret ?_
    refine after.seq_ret ?_
    exact ⟨ret_ne 0, ret_ne, [.str (tx 0)], (by rw [res24]; rfl), rfl, hx4.trans k4⟩
  | cons n0 q =>
    have hql : vs.length = q.length + 1 := by rw [hc]; rfl
    have hsl : ∀ l : List Int, (∀ n ∈ l, (tx n).length ≤ 1000) → sumL (l.map tx) ≤ 1000 * l.length := by
      intro l
      induction l with
      | nil => intro _; exact Nat.zero_le _
      | cons a l ih =>
        intro h
        have h1 := h a (by simp)
        have h2 := ih fun n hn => h n (by simp [hn])
        show (tx a).length + sumL (l.map tx) ≤ 1000 * (l.length + 1)
        omega
    have hjl : (tx n0).length + (joinT sep (q.map tx)).length ≤ 1000000 := by
      have h1 := (htx n0 (by rw [hc]; simp)).2
      have h2 := hsl q fun n hn => (htx n (by rw [hc]; simp [hn])).2
      have h3 : sep.length * q.length ≤ 100 * q.length := Nat.mul_le_mul_right _ hsep
      rw [joinT_len, List.length_map]
      omega
    refine CallW.enter (hs 24 (by simp) _ _) Tryz.func24 body24 c24_of rfl ?_
    rw [nt24]
    unfold c24
    refine WK.seq ?_
    refine WK.region ?_
    refine WR.op rfl rfl (r_box rfl rfl) rfl ?_
    refine WR.op rfl rfl rfl rfl ?_
    refine WR.nil ?_
    refine after.seq ?_
    refine WK.seq ?_
    refine WK.seq ?_
    refine WK.region ?_
    refine WR.op rfl rfl (r_fa fo60_0 rfl) rfl ?_
    refine WR.op rfl rfl (r_ld agg3 rfl hb rfl) rfl ?_
    refine WR.nil ?_
    refine after.seq ?_
    refine WK.block ?_
    refine WK.seq ?_
    refine WK.region ?_
    refine WR.op rfl rfl (r_eql rfl rfl (q := false) rfl) rfl ?_
    refine WR.op rfl rfl rfl rfl ?_
    refine WR.nil ?_
    refine after.seq ?_
    refine WK.cond rfl (fun h => (by cases h)) (fun _ => ?_)
    refine WK.seq ?_
    refine WK.seq ?_
    refine WK.region ?_
    refine WR.op rfl rfl (r_eql rfl rfl (q := false) rfl) rfl ?_
    refine WR.op rfl rfl rfl rfl ?_
    refine WR.nil ?_
    refine after.seq ?_
    refine WK.cond rfl (fun h => (by cases h)) (fun _ => ?_)
    refine WK.region ?_
    refine WR.op rfl rfl (r_eql rfl rfl (q := true) rfl) rfl ?_
    refine WR.op rfl rfl rfl rfl ?_
    refine WR.nil ?_
    refine after.seq ?_
    refine WK.cond rfl (fun _ => ?_) (fun h => (by cases h))
    refine WK.skip ?_
    refine after.block ?_
    refine after.seq ?_
    refine WK.seq ?_
    refine WK.seq ?_
    refine WK.region ?_
    refine WR.op rfl rfl (r_fa fo60_3 rfl) rfl ?_
    refine WR.op rfl rfl (r_ld agg9 rfl hb rfl) rfl ?_
    refine WR.op rfl rfl (r_seql rfl rfl hsty) rfl ?_
    refine WR.nil ?_
    refine after.seq ?_
    refine WK.cond rfl (fun h => (by cases h)) (fun _ => ?_)
    refine WK.skip ?_
    refine after.seq ?_
    refine WK.seq ?_
    refine WK.region ?_
    refine WR.op rfl rfl rfl rfl ?_
    refine WR.op rfl rfl (r_fa fo60_1 rfl) rfl ?_
    refine WR.op rfl rfl (r_ld agg9 rfl hb rfl) rfl ?_
    refine WR.call (f := 51) («as» := [x, .str t]) rfl (.inl rfl) rfl rfl rfl rfl ((value_ok (fun f hf => hs f (by revert f; decide)) (by omega) (hx.ext hx1) hxp hxc).mono ?_)
    rintro v1 st1 ⟨⟨bb, rfl⟩, k1⟩
    have hb1 := (k1.heap st.next (by omega)).trans hb
    have hx2 := hx1.trans k1
    refine WR.op rfl rfl rfl rfl ?_
    refine WR.op rfl rfl rfl rfl ?_
    refine WR.op rfl rfl rfl rfl ?_
    refine WR.op rfl rfl rfl rfl ?_
    refine WR.op rfl rfl rfl rfl ?_
    refine WR.nil ?_
    refine after.seq ?_
    refine WK.seq ?_
    refine WK.seq ?_
    refine WK.region ?_
    refine WR.op rfl rfl (r_fa fo60_0 rfl) rfl ?_
    refine WR.op rfl rfl (r_ld agg3 rfl hb1 rfl) rfl ?_
    refine WR.op rfl rfl (r_eql rfl rfl (q := false) rfl) rfl ?_
    refine WR.nil ?_
    refine after.seq ?_
    refine WK.cond rfl (fun h => (by cases h)) (fun _ => ?_)
    refine WK.skip ?_
    refine after.seq ?_
    refine WK.seq ?_
    refine WK.region ?_
    refine WR.op rfl rfl rfl rfl ?_
    refine WR.nil ?_
    refine after.seq ?_
    refine WK.seq ?_
    refine WK.seq ?_
    refine WK.region ?_
    refine WR.op rfl rfl rfl rfl ?_
    refine WR.op rfl rfl (r_fa fo60_1 rfl) rfl ?_
    refine WR.op rfl rfl (r_ld agg9 rfl hb1 rfl) rfl ?_
    refine WR.call (f := 52) («as» := [x, .str t]) rfl (.inl rfl) rfl rfl rfl rfl ((values_ok (hs 52 (by simp)) (by omega) (hx.ext hx2)).mono ?_)
    rintro v2 st2 ⟨⟨fv, hrow⟩, k2⟩
    rw [← hvs] at hrow
    have hb2 := (k2.heap st.next (by have := k1.nx; omega)).trans hb1
    have hx3 := hx2.trans k2
    refine WR.op rfl rfl (v := .int .i64 (vs.length : Int)) ((r_lenE ⟨_, un55⟩ rfl hrow.els).trans (by rw [List.length_map])) rfl ?_
    refine WR.op rfl rfl rfl rfl ?_
    refine WR.nil ?_
    refine after.seq ?_
    refine WK.block ?_
    refine one_loop hx3 hb2 (Nat.lt_of_lt_of_le (Nat.lt_of_lt_of_le (by omega) k1.nx) k2.nx) hrow (by omega) (fun n hn st' hE => hT n (.inr hn) st' hE) vs [] rfl .nils 0 _ (.inl ⟨rfl, rfl⟩) (Ext.refl st2) (.inl rfl) _ rfl rfl rfl rfl rfl rfl fun env3 st3 y3 f3 g0 g5 g9 hrow3 hext3 => ?_
    have hb3 := (hext3.heap st.next (by have := k1.nx; have := k2.nx; omega)).trans hb2
    have hx4 := hx3.trans hext3
    refine after.seq ?_
    refine WK.sub [(0, r), (5, .ptr st.next 0), (9, y3)] ?_ ?_
    · intro t v ht
      simp only [lookE_cons] at ht
      by_cases e0 : t = 0
      · rw [if_pos e0] at ht; subst e0; rw [g0]; exact ht
      rw [if_neg e0] at ht
      by_cases e5 : t = 5
      · rw [if_pos e5] at ht; subst e5; rw [g5]; exact ht
      rw [if_neg e5] at ht
      by_cases e9 : t = 9
      · rw [if_pos e9] at ht; subst e9; rw [g9]; exact ht
      rw [if_neg e9] at ht
      cases ht
    refine WK.seq ?_
    refine WK.seq ?_
    refine WK.region ?_
    refine WR.op rfl rfl rfl rfl ?_
    refine WR.op rfl rfl (v := .int .i64 (vs.length : Int)) ((r_lenE ⟨_, un31⟩ rfl hrow3.els).trans (by rw [List.length_map, List.length_map])) rfl ?_
    refine WR.op rfl rfl (r_eql rfl rfl (q := false) (ieqb_F (by rw [hc]; simp only [List.length_cons]; omega))) rfl ?_
    refine WR.nil ?_
    refine after.seq ?_
    refine WK.cond rfl (fun h => (by cases h)) (fun _ => ?_)
    refine WK.skip ?_
    refine after.seq ?_
    refine WK.seq ?_
    refine WK.region ?_
    refine WR.op rfl rfl rfl rfl ?_
    refine WR.op rfl rfl (r_fa fo60_2 rfl) rfl ?_
    refine WR.op rfl rfl (r_ld agg9 rfl hb3 rfl) rfl ?_
    rw [hc] at hrow3
    refine WR.call (f := 53) («as» := [y3, .str sep]) rfl (.inl rfl) rfl rfl rfl rfl ((join_ok (fun f hf => hs f (by revert f; decide)) (t0 := tx n0) (rest := q.map tx) hrow3 (htx n0 (by rw [hc]; simp)).1 (by rw [List.length_map]; omega) hjl).mono ?_)
    rintro v4 st4 ⟨rfl, k4⟩
    refine WR.op rfl rfl rfl rfl ?_
    refine WR.nil ?_
    refine after.seq ?_
    refine WK.ret ?_
    exact ⟨ret_ne 0, ret_ne, [.str (joinS sep ((n0 :: q).map tx))], (by rw [res24]; rfl), rfl, hx4.trans k4⟩
end Go.Proofs.Tz
