/- The registry of styles: ranges, places, texts that are built. -/
import Derived.Test.YtjnahfpnehmehaaGreatDoorAeH
import Derived.Test.YtjnahfpnehmehaaGreatDoorTz1
namespace Go.Proofs.Tz
open Go Go.AE Go.RowKit Go.Proofs
set_option maxRecDepth 100000
variable {sum : FuncId → List AV → St → Option (AV × St)}

theorem fo75_0 : fieldOff Tryz.prog 75 0 = some 0 := by kernel_rfl
theorem fo75_1 : fieldOff Tryz.prog 75 1 = some 1 := by kernel_rfl
theorem fo75_2 : fieldOff Tryz.prog 75 2 = some 2 := by kernel_rfl
theorem fo75_3 : fieldOff Tryz.prog 75 3 = some 3 := by kernel_rfl
theorem fo75_4 : fieldOff Tryz.prog 75 4 = some 4 := by kernel_rfl
theorem fo75_5 : fieldOff Tryz.prog 75 5 = some 5 := by kernel_rfl
theorem fo75_8 : fieldOff Tryz.prog 75 8 = some 9 := by kernel_rfl
theorem fo75_9 : fieldOff Tryz.prog 75 9 = some 10 := by kernel_rfl
theorem fo75_10 : fieldOff Tryz.prog 75 10 = some 11 := by kernel_rfl
theorem fo75_11 : fieldOff Tryz.prog 75 11 = some 12 := by kernel_rfl
theorem fo75_12 : fieldOff Tryz.prog 75 12 = some 13 := by kernel_rfl
theorem agg3 : isAggT Tryz.prog 3 = some false := by kernel_rfl
theorem agg4 : isAggT Tryz.prog 4 = some false := by kernel_rfl
theorem agg9 : isAggT Tryz.prog 9 = some false := by kernel_rfl
theorem agg31 : isAggT Tryz.prog 31 = some false := by kernel_rfl
theorem agg55 : isAggT Tryz.prog 55 = some false := by kernel_rfl
theorem agg73 : isAggT Tryz.prog 73 = some false := by kernel_rfl
theorem agg75 : isAggT Tryz.prog 75 = some true := by kernel_rfl
theorem agg81 : isAggT Tryz.prog 81 = some true := by kernel_rfl
theorem sz75 : sizeT Tryz.prog 75 = some 16 := by kernel_rfl
theorem sz81 : sizeT Tryz.prog 81 = some 2 := by kernel_rfl
theorem sz3 : sizeT Tryz.prog 3 = some 1 := by kernel_rfl
theorem sz9 : sizeT Tryz.prog 9 = some 1 := by kernel_rfl

/-- A counter style. -/
structure D where
  name : List UInt8
  sys : List UInt8
  first : Int
  syms : AV
  weights : AV
  neg0 : List UInt8
  neg1 : List UInt8
  pre : List UInt8
  suf : List UInt8
  auto : Bool
  range : AV
  pad : Int
  padSign : List UInt8
  fb : List UInt8
  ext : List UInt8
  said : Int
def D.cells (d : D) : List AV := [.str d.name, .str d.sys, .int .i64 d.first, d.syms, d.weights, .str d.neg0, .str d.neg1, .str d.pre, .str d.suf, .bool d.auto, d.range, .int .i64 d.pad, .str d.padSign, .str d.fb, .str d.ext, .int .i64 d.said]
def D.av (d : D) : AV := .agg d.cells
structure D.Plain (d : D) : Prop where
  syms : d.syms.plain = true
  weights : d.weights.plain = true
  range : d.range.plain = true
theorem D.Plain.ok {d : D} (h : d.Plain) : (d.av.cells.all AV.plain && Nat.ble 1 d.av.cells.length) = true := by
  have h1 := h.syms
  have h2 := h.weights
  have h3 := h.range
  unfold D.av D.cells
  show (((AV.plain (.str d.name)) && (true && (true && (d.syms.plain && (d.weights.plain && (true && (true && (true && (true && (true && (d.range.plain && (true && (true && (true && (true && (true && true)))))))))))))))) && true) = true
  rw [h1, h2, h3]
  rfl
/-- fleuron/registry.held -/
def c44 : SC := (.seq (.region [⟨.assign (.const (.int .i64 0)), some 2, none⟩])
  (.seq (.region [⟨.move (.tmp 0), some 3, none⟩, ⟨.call ⟨.builtin .min, #[(.tmp 3), (.const (.int .i64 2147483647))], #[3, 3]⟩, some 4, none⟩, ⟨.call ⟨.builtin .max, #[(.tmp 4), (.const (.int .i64 (-2147483648)))], #[3, 3]⟩, some 5, none⟩, ⟨.assign (.tmp 5), some 2, none⟩])
  .ret))
theorem c44_of : SC.of Tryz.f44.body.get! = c44 := by kernel_rfl
theorem body44 : Tryz.f44.body = some (Tryz.f44.body.get!) := by kernel_rfl
theorem nt44 : Tryz.f44.ntmps = 6 := by kernel_rfl
theorem res44 : Tryz.f44.results.toList = [.tmp 2] := by kernel_rfl
noncomputable def heldN (n : Int) : Int := max (min n 2147483647) (-2147483648)
theorem held_ok (hs : ∀ xs st, sum 44 xs st = none) (n : Int) (st : St) : CallW (CS sum) 44 [.int .i64 n] st fun v st' => v = .int .i64 (heldN n) ∧ st' = st := by
  refine CallW.enter (hs _ _) Tryz.func44 body44 c44_of rfl ?_
  rw [nt44]
  unfold c44
  refine WK.seq ?_
  refine WK.region ?_
  refine WR.op rfl rfl rfl rfl ?_
  refine WR.nil ?_
  refine after.seq ?_
  refine WK.seq ?_
  refine WK.region ?_
  refine WR.op rfl rfl rfl rfl ?_
  refine WR.op rfl rfl (r_min2 rfl rfl) rfl ?_
  refine WR.op rfl rfl (r_max2 rfl rfl) rfl ?_
  refine WR.op rfl rfl rfl rfl ?_
  refine WR.nil ?_
  refine after.seq ?_
  refine WK.ret ?_
  exact ⟨ret_ne 0, ret_ne, [.int .i64 (heldN n)], (by rw [res44]; rfl), rfl, rfl⟩
/-- (*fleuron/registry.Registry).some -/
def c45 : SC := (.seq (.region [⟨.assign (.const (.pointer none)), some 2, none⟩])
  (.seq (.seq (.region [⟨.move (.tmp 0), some 3, none⟩, ⟨.binOp .eql 36 (.tmp 3) (.const (.pointer none)) 36, some 4, none⟩])
  (.cond (.tmp 4) (.seq (.region [⟨.call ⟨.value (.func 19), #[(.const (.slice none 0 0))], #[66]⟩, some 5, none⟩, ⟨.assign (.tmp 5), some 2, none⟩])
  .ret) .skip))
  (.seq (.region [⟨.move (.tmp 0), some 6, none⟩, ⟨.assign (.tmp 6), some 2, none⟩])
  .ret)))
theorem c45_of : SC.of Tryz.f45.body.get! = c45 := by kernel_rfl
theorem body45 : Tryz.f45.body = some (Tryz.f45.body.get!) := by kernel_rfl
theorem nt45 : Tryz.f45.ntmps = 7 := by kernel_rfl
theorem res45 : Tryz.f45.results.toList = [.tmp 2] := by kernel_rfl
theorem some_ok (hs : ∀ xs st, sum 45 xs st = none) (b k : Nat) (st : St) : CallW (CS sum) 45 [.ptr b k] st fun v st' => v = .ptr b k ∧ st' = st := by
  refine CallW.enter (hs _ _) Tryz.func45 body45 c45_of rfl ?_
  rw [nt45]
  unfold c45
  refine WK.seq ?_
  refine WK.region ?_
  refine WR.op rfl rfl rfl rfl ?_
  refine WR.nil ?_
  refine after.seq ?_
  refine WK.seq ?_
  refine WK.seq ?_
  refine WK.region ?_
  refine WR.op rfl rfl rfl rfl ?_
  refine WR.op rfl rfl rfl rfl ?_
  refine WR.nil ?_
  refine after.seq ?_
  refine WK.cond rfl (fun h => (by cases h)) (fun _ => ?_)
  refine WK.skip ?_
  refine after.seq ?_
  refine WK.seq ?_
  refine WK.region ?_
  refine WR.op rfl rfl rfl rfl ?_
  refine WR.op rfl rfl rfl rfl ?_
  refine WR.nil ?_
  refine after.seq ?_
  refine WK.ret ?_
  exact ⟨ret_ne 0, ret_ne, [.ptr b k], (by rw [res45]; rfl), rfl, rfl⟩
/-- fleuron/system.Uses -/
def c48 : SC := (.seq (.region [⟨.box 75 (.tmp 0), some 2, none⟩, ⟨.assign (.const (.bool false)), some 4, none⟩])
  (.seq (.seq (.region [⟨.fieldAddr 75 (.tmp 2) 1, some 5, none⟩, ⟨.load 9 (.tmp 5), some 6, none⟩])
  (.block 0 (.seq (.seq (.region [⟨.binOp .eql 9 (.tmp 6) (.const (.string ⟨#[115, 121, 109, 98, 111, 108, 105, 99]⟩)) 9, some 8, none⟩, ⟨.assign (.tmp 8), some 7, none⟩])
  (.cond (.tmp 7) .skip (.seq (.region [⟨.binOp .eql 9 (.tmp 6) (.const (.string ⟨#[97, 108, 112, 104, 97, 98, 101, 116, 105, 99]⟩)) 9, some 9, none⟩, ⟨.assign (.tmp 9), some 7, none⟩])
  (.cond (.tmp 7) .skip (.seq (.region [⟨.binOp .eql 9 (.tmp 6) (.const (.string ⟨#[110, 117, 109, 101, 114, 105, 99]⟩)) 9, some 10, none⟩, ⟨.assign (.tmp 10), some 7, none⟩])
  (.cond (.tmp 7) .skip (.region [⟨.binOp .eql 9 (.tmp 6) (.const (.string ⟨#[97, 100, 100, 105, 116, 105, 118, 101]⟩)) 9, some 11, none⟩, ⟨.assign (.tmp 11), some 7, none⟩])))))))
  (.cond (.tmp 7) (.seq (.region [⟨.move (.tmp 1), some 12, none⟩, ⟨.binOp .lss 3 (.tmp 12) (.const (.int .i64 0)) 3, some 13, none⟩, ⟨.assign (.tmp 13), some 4, none⟩])
  .ret) .skip))))
  (.seq (.region [⟨.assign (.const (.bool false)), some 4, none⟩])
  .ret)))
theorem c48_of : SC.of Tryz.f48.body.get! = c48 := by kernel_rfl
theorem body48 : Tryz.f48.body = some (Tryz.f48.body.get!) := by kernel_rfl
theorem nt48 : Tryz.f48.ntmps = 14 := by kernel_rfl
theorem res48 : Tryz.f48.results.toList = [.tmp 4] := by kernel_rfl
def tSymbolic : List UInt8 := [115, 121, 109, 98, 111, 108, 105, 99]
def tAlphabetic : List UInt8 := [97, 108, 112, 104, 97, 98, 101, 116, 105, 99]
def tNumeric : List UInt8 := [110, 117, 109, 101, 114, 105, 99]
def tAdditive : List UInt8 := [97, 100, 100, 105, 116, 105, 118, 101]
noncomputable def usesB (sys : List UInt8) (n : Int) : Bool := (eqL sys tSymbolic || (eqL sys tAlphabetic || (eqL sys tNumeric || eqL sys tAdditive))) && iltb n 0
theorem uses_ok (hs : ∀ xs st, sum 48 xs st = none) {d : D} (hd : d.Plain) (n : Int) (st : St) : CallW (CS sum) 48 [d.av, .int .i64 n] st fun v st' => v = .bool (usesB d.sys n) ∧ Ext st st' := by
  have hb := push_self st (boxO 75 d.av)
  refine CallW.enter (hs _ _) Tryz.func48 body48 c48_of rfl ?_
  rw [nt48]
  unfold c48
  refine WK.seq ?_
  refine WK.region ?_
  refine WR.op rfl rfl (r_box rfl hd.ok) rfl ?_
  refine WR.op rfl rfl rfl rfl ?_
  refine WR.nil ?_
  refine after.seq ?_
  refine WK.seq ?_
  refine WK.seq ?_
  refine WK.region ?_
  refine WR.op rfl rfl (r_fa fo75_1 rfl) rfl ?_
  refine WR.op rfl rfl (r_ld agg9 rfl hb rfl) rfl ?_
  refine WR.nil ?_
  refine after.seq ?_
  refine WK.block ?_
  refine WK.seq ?_
  refine WK.seq ?_
  refine WK.region ?_
  refine WR.op rfl rfl rfl rfl ?_
  refine WR.op rfl rfl rfl rfl ?_
  refine WR.nil ?_
  refine after.seq ?_
  refine WK.cond rfl (fun hc7_1 => ?_) (fun hc7_1 => ?_)
  · refine WK.skip ?_
    refine after.seq ?_
    refine WK.cond rfl (fun hc7_2 => ?_) (fun hc7_2 => ?_)
    · refine WK.seq ?_
      refine WK.region ?_
      refine WR.op rfl rfl rfl rfl ?_
      refine WR.op rfl rfl rfl rfl ?_
      refine WR.op rfl rfl rfl rfl ?_
      refine WR.nil ?_
      refine after.seq ?_
      refine WK.ret ?_
      refine after.block_ret ?_
      refine after.seq_ret ?_
      refine ⟨ret_ne 0, ret_ne, [.bool (iltb n 0)], (by rw [res48]; rfl), ?_, (Ext.refl st).push _⟩
      show AV.bool _ = _
      unfold usesB tSymbolic tAlphabetic tNumeric tAdditive
      simp_all
    · refine WK.skip ?_
      refine after.block ?_
      refine after.seq ?_
      refine WK.seq ?_
      refine WK.region ?_
      refine WR.op rfl rfl rfl rfl ?_
      refine WR.nil ?_
      refine after.seq ?_
      refine WK.ret ?_
      refine ⟨ret_ne 0, ret_ne, [.bool false], (by rw [res48]; rfl), ?_, (Ext.refl st).push _⟩
      show AV.bool _ = _
      unfold usesB tSymbolic tAlphabetic tNumeric tAdditive
      simp_all
  · refine WK.seq ?_
    refine WK.region ?_
    refine WR.op rfl rfl rfl rfl ?_
    refine WR.op rfl rfl rfl rfl ?_
    refine WR.nil ?_
    refine after.seq ?_
    refine WK.cond rfl (fun hc7_3 => ?_) (fun hc7_3 => ?_)
    · refine WK.skip ?_
      refine after.seq ?_
      refine WK.cond rfl (fun hc7_4 => ?_) (fun hc7_4 => ?_)
      · refine WK.seq ?_
        refine WK.region ?_
        refine WR.op rfl rfl rfl rfl ?_
        refine WR.op rfl rfl rfl rfl ?_
        refine WR.op rfl rfl rfl rfl ?_
        refine WR.nil ?_
        refine after.seq ?_
        refine WK.ret ?_
        refine after.block_ret ?_
        refine after.seq_ret ?_
        refine ⟨ret_ne 0, ret_ne, [.bool (iltb n 0)], (by rw [res48]; rfl), ?_, (Ext.refl st).push _⟩
        show AV.bool _ = _
        unfold usesB tSymbolic tAlphabetic tNumeric tAdditive
        simp_all
      · refine WK.skip ?_
        refine after.block ?_
        refine after.seq ?_
        refine WK.seq ?_
        refine WK.region ?_
        refine WR.op rfl rfl rfl rfl ?_
        refine WR.nil ?_
        refine after.seq ?_
        refine WK.ret ?_
        refine ⟨ret_ne 0, ret_ne, [.bool false], (by rw [res48]; rfl), ?_, (Ext.refl st).push _⟩
        show AV.bool _ = _
        unfold usesB tSymbolic tAlphabetic tNumeric tAdditive
        simp_all
    · refine WK.seq ?_
      refine WK.region ?_
      refine WR.op rfl rfl rfl rfl ?_
      refine WR.op rfl rfl rfl rfl ?_
      refine WR.nil ?_
      refine after.seq ?_
      refine WK.cond rfl (fun hc7_5 => ?_) (fun hc7_5 => ?_)
      · refine WK.skip ?_
        refine after.seq ?_
        refine WK.cond rfl (fun hc7_6 => ?_) (fun hc7_6 => ?_)
        · refine WK.seq ?_
          refine WK.region ?_
          refine WR.op rfl rfl rfl rfl ?_
          refine WR.op rfl rfl rfl rfl ?_
          refine WR.op rfl rfl rfl rfl ?_
          refine WR.nil ?_
          refine after.seq ?_
          refine WK.ret ?_
          refine after.block_ret ?_
          refine after.seq_ret ?_
          refine ⟨ret_ne 0, ret_ne, [.bool (iltb n 0)], (by rw [res48]; rfl), ?_, (Ext.refl st).push _⟩
          show AV.bool _ = _
          unfold usesB tSymbolic tAlphabetic tNumeric tAdditive
          simp_all
        · refine WK.skip ?_
          refine after.block ?_
          refine after.seq ?_
          refine WK.seq ?_
          refine WK.region ?_
          refine WR.op rfl rfl rfl rfl ?_
          refine WR.nil ?_
          refine after.seq ?_
          refine WK.ret ?_
          refine ⟨ret_ne 0, ret_ne, [.bool false], (by rw [res48]; rfl), ?_, (Ext.refl st).push _⟩
          show AV.bool _ = _
          unfold usesB tSymbolic tAlphabetic tNumeric tAdditive
          simp_all
      · refine WK.region ?_
        refine WR.op rfl rfl rfl rfl ?_
        refine WR.op rfl rfl rfl rfl ?_
        refine WR.nil ?_
        refine after.seq ?_
        refine WK.cond rfl (fun hc7_7 => ?_) (fun hc7_7 => ?_)
        · refine WK.seq ?_
          refine WK.region ?_
          refine WR.op rfl rfl rfl rfl ?_
          refine WR.op rfl rfl rfl rfl ?_
          refine WR.op rfl rfl rfl rfl ?_
          refine WR.nil ?_
          refine after.seq ?_
          refine WK.ret ?_
          refine after.block_ret ?_
          refine after.seq_ret ?_
          refine ⟨ret_ne 0, ret_ne, [.bool (iltb n 0)], (by rw [res48]; rfl), ?_, (Ext.refl st).push _⟩
          show AV.bool _ = _
          unfold usesB tSymbolic tAlphabetic tNumeric tAdditive
          simp_all
        · refine WK.skip ?_
          refine after.block ?_
          refine after.seq ?_
          refine WK.seq ?_
          refine WK.region ?_
          refine WR.op rfl rfl rfl rfl ?_
          refine WR.nil ?_
          refine after.seq ?_
          refine WK.ret ?_
          refine ⟨ret_ne 0, ret_ne, [.bool false], (by rw [res48]; rfl), ?_, (Ext.refl st).push _⟩
          show AV.bool _ = _
          unfold usesB tSymbolic tAlphabetic tNumeric tAdditive
          simp_all
end Go.Proofs.Tz

namespace Go.Proofs.Tz
open Go Go.AE Go.RowKit Go.Proofs
set_option maxRecDepth 100000
variable {sum : FuncId → List AV → St → Option (AV × St)}
theorem un81 : und Tryz.prog 81 = some (.array 2 3) := by kernel_rfl
theorem un73 : und Tryz.prog 73 = some (.slice 81) := by kernel_rfl
noncomputable def inP (n : Int) (p : Int × Int) : Bool := (!iltb n p.1) && (!iltb p.2 n)
/-- fleuron/system.In$1 -/
def c118 : SC := (.seq (.region [⟨.box 81 (.tmp 0), some 2, none⟩, ⟨.assign (.const (.bool false)), some 3, none⟩])
  (.seq (.region [⟨.load 3 (.tmp 1), some 4, none⟩, ⟨.indexAddr 81 (.tmp 2) (.const (.int .i64 0)), some 5, none⟩, ⟨.load 3 (.tmp 5), some 6, none⟩, ⟨.binOp .geq 3 (.tmp 4) (.tmp 6) 3, some 7, none⟩, ⟨.move (.tmp 7), some 8, none⟩, ⟨.load 3 (.tmp 1), some 9, some (8, true)⟩, ⟨.indexAddr 81 (.tmp 2) (.const (.int .i64 1)), some 10, some (8, true)⟩, ⟨.load 3 (.tmp 10), some 11, some (8, true)⟩, ⟨.binOp .leq 3 (.tmp 9) (.tmp 11) 3, some 12, some (8, true)⟩, ⟨.pick (.tmp 8) (.tmp 12) (.const (.bool false)), some 13, none⟩, ⟨.assign (.tmp 13), some 3, none⟩])
  .ret))
theorem c118_of : SC.of Tryz.f118.body.get! = c118 := by kernel_rfl
theorem body118 : Tryz.f118.body = some (Tryz.f118.body.get!) := by kernel_rfl
theorem nt118 : Tryz.f118.ntmps = 14 := by kernel_rfl
theorem res118 : Tryz.f118.results.toList = [.tmp 3] := by kernel_rfl
theorem in1_ok (hs : ∀ xs st, sum 118 xs st = none) (n lo hi : Int) (st : St) (b : Nat) (hb : st.heap.get b = some (boxO 3 (.int .i64 n))) (hlt : b < st.next) : CallW (CS sum) 118 [.agg [.int .i64 lo, .int .i64 hi], .ptr b 0] st fun v st' => v = .bool (inP n (lo, hi)) ∧ Ext st st' := by
  have hv := push_self st (boxO 81 (.agg [.int .i64 lo, .int .i64 hi]))
  have hn : (st.push (boxO 81 (.agg [.int .i64 lo, .int .i64 hi]))).heap.get b = some (boxO 3 (.int .i64 n)) := by rw [push_lt _ _ hlt]; exact hb
  refine CallW.enter (hs _ _) Tryz.func118 body118 c118_of rfl ?_
  rw [nt118]
  unfold c118
  refine WK.seq ?_
  refine WK.region ?_
  refine WR.op rfl rfl (r_box rfl rfl) rfl ?_
  refine WR.op rfl rfl rfl rfl ?_
  refine WR.nil ?_
  refine after.seq ?_
  refine WK.seq ?_
  refine WK.region ?_
  refine WR.op rfl rfl (r_ld agg3 rfl hn rfl) rfl ?_
  refine WR.op rfl rfl (r_iaA (n := 0) un81 sz3 rfl rfl (by decide)) rfl ?_
  refine WR.op rfl rfl (r_ld agg3 rfl hv rfl) rfl ?_
  cases h7 : (!iltb n lo)
  · refine WR.op rfl rfl (r_geq rfl rfl h7) rfl ?_
    refine WR.op rfl rfl rfl rfl ?_
    refine WR.off rfl rfl rfl rfl rfl ?_
    refine WR.off rfl rfl rfl rfl rfl ?_
    refine WR.off rfl rfl rfl rfl rfl ?_
    refine WR.off rfl rfl rfl rfl rfl ?_
    refine WR.op rfl rfl rfl rfl ?_
    refine WR.op rfl rfl rfl rfl ?_
    refine WR.nil ?_
    refine after.seq ?_
    refine WK.ret ?_
    refine ⟨ret_ne 0, ret_ne, [.bool false], (by rw [res118]; rfl), ?_, (Ext.refl st).push _⟩
    unfold inP
    rw [h7]
    rfl
  · refine WR.op rfl rfl (r_geq rfl rfl h7) rfl ?_
    refine WR.op rfl rfl rfl rfl ?_
    refine WR.opG rfl rfl rfl (r_ld agg3 rfl hn rfl) rfl ?_
    refine WR.opG rfl rfl rfl (r_iaA (n := 1) un81 sz3 rfl rfl (by decide)) rfl ?_
    refine WR.opG rfl rfl rfl (r_ld agg3 rfl hv rfl) rfl ?_
    refine WR.opG rfl rfl rfl rfl rfl ?_
    refine WR.op rfl rfl rfl rfl ?_
    refine WR.op rfl rfl rfl rfl ?_
    refine WR.nil ?_
    refine after.seq ?_
    refine WK.ret ?_
    refine ⟨ret_ne 0, ret_ne, [.bool (!iltb hi n)], (by rw [res118]; rfl), ?_, (Ext.refl st).push _⟩
    unfold inP
    rw [h7]
    rfl
/-- slices.IndexFunc[[][2]int,[2]int] -/
def c160 : SC := (.seq (.region [⟨.assign (.const (.int .i64 0)), some 4, none⟩])
  (.seq (.seq (.region [⟨.move (.tmp 0), some 6, none⟩, ⟨.call ⟨.builtin .len, #[(.tmp 6)], #[73]⟩, some 7, none⟩, ⟨.move (.const (.int .i64 0)), some 8, none⟩])
  (.block 0 (.loop (.seq (.region [⟨.binOp .lss 3 (.tmp 8) (.tmp 7) 3, some 9, none⟩])
  (.seq (.cond (.tmp 9) .skip (.exit 0))
  (.seq (.block 1 (.seq (.region [⟨.move (.tmp 8), some 10, none⟩, ⟨.assign (.tmp 10), some 5, none⟩])
  (.seq (.region [⟨.move (.tmp 1), some 11, none⟩, ⟨.move (.tmp 0), some 12, none⟩, ⟨.move (.tmp 5), some 13, none⟩, ⟨.indexAddr 73 (.tmp 12) (.tmp 13), some 14, none⟩, ⟨.load 81 (.tmp 14), some 15, none⟩, ⟨.call ⟨.value (.tmp 11), #[(.tmp 15)], #[81]⟩, some 16, none⟩])
  (.cond (.tmp 16) (.seq (.region [⟨.move (.tmp 5), some 17, none⟩, ⟨.assign (.tmp 17), some 4, none⟩])
  .ret) .skip))))
  (.region [⟨.binOp .add 3 (.tmp 8) (.const (.int .i64 1)) 3, some 18, none⟩, ⟨.move (.tmp 18), some 8, none⟩])))))))
  (.seq (.region [⟨.assign (.const (.int .i64 (-1))), some 4, none⟩])
  .ret)))
theorem c160_of : SC.of Tryz.f160.body.get! = c160 := by kernel_rfl
theorem body160 : Tryz.f160.body = some (Tryz.f160.body.get!) := by kernel_rfl
theorem nt160 : Tryz.f160.ntmps = 19 := by kernel_rfl
theorem res160 : Tryz.f160.results.toList = [.tmp 4] := by kernel_rfl
def c160loop : SC := (.loop (.seq (.region [⟨.binOp .lss 3 (.tmp 8) (.tmp 7) 3, some 9, none⟩])
  (.seq (.cond (.tmp 9) .skip (.exit 0))
  (.seq (.block 1 (.seq (.region [⟨.move (.tmp 8), some 10, none⟩, ⟨.assign (.tmp 10), some 5, none⟩])
  (.seq (.region [⟨.move (.tmp 1), some 11, none⟩, ⟨.move (.tmp 0), some 12, none⟩, ⟨.move (.tmp 5), some 13, none⟩, ⟨.indexAddr 73 (.tmp 12) (.tmp 13), some 14, none⟩, ⟨.load 81 (.tmp 14), some 15, none⟩, ⟨.call ⟨.value (.tmp 11), #[(.tmp 15)], #[81]⟩, some 16, none⟩])
  (.cond (.tmp 16) (.seq (.region [⟨.move (.tmp 5), some 17, none⟩, ⟨.assign (.tmp 17), some 4, none⟩])
  .ret) .skip))))
  (.region [⟨.binOp .add 3 (.tmp 8) (.const (.int .i64 1)) 3, some 18, none⟩, ⟨.move (.tmp 18), some 8, none⟩])))))
def c160end : SC := (.seq (.region [⟨.assign (.const (.int .i64 (-1))), some 4, none⟩])
  .ret)
/-- A range's cells. -/
def pairC (p : Int × Int) : List AV := [.int .i64 p.1, .int .i64 p.2]
theorem idx160_loop (hs : ∀ xs st, sum 118 xs st = none) {n : Int} {ps : List (Int × Int)} {x : AV} {b : Nat} {st : St} (hlen : ps.length < 1000000) (hx : Els st x 2 (ps.map pairC)) (hb : st.heap.get b = some (boxO 3 (.int .i64 n))) (hlt : b < st.next) : ∀ (m i : Nat), i + m = ps.length → ps.any (inP n) = (ps.drop i).any (inP n) → ∀ (st1 : St), Ext st st1 → ∀ env, lookE 0 env = some x → lookE 1 env = some (.func (.func 118) [] [.ptr b 0]) → lookE 7 env = some (.int .i64 (ps.length : Int)) → lookE 8 env = some (.int .i64 (i : Int)) →
    WK (CS sum) 19 none c160loop [.block 0, .seq c160end] env st1 fun e env st' => e ≠ .exit 0 ∧ (∀ i, e ≠ .exit i) ∧ ∃ vs, resE (CS sum).P env st' Tryz.f160.results.toList = some vs ∧ ((∃ r : Int, one vs = .int .i64 r ∧ (!iltb r 0) = ps.any (inP n)) ∧ Ext st st') := by
  intro m
  induction m with
  | zero =>
    intro i hi hno st1 hext env h0 h1 h7 h8
    refine WK.sub [(0, x), (1, .func (.func 118) [] [.ptr b 0]), (7, .int .i64 (ps.length : Int)), (8, .int .i64 (i : Int))] ?_ ?_
    · intro t v ht
      simp only [lookE_cons] at ht
      by_cases e0 : t = 0
      · rw [if_pos e0] at ht; subst e0; rw [h0]; exact ht
      rw [if_neg e0] at ht
      by_cases e1 : t = 1
      · rw [if_pos e1] at ht; subst e1; rw [h1]; exact ht
      rw [if_neg e1] at ht
      by_cases e7 : t = 7
      · rw [if_pos e7] at ht; subst e7; rw [h7]; exact ht
      rw [if_neg e7] at ht
      by_cases e8 : t = 8
      · rw [if_pos e8] at ht; subst e8; rw [h8]; exact ht
      rw [if_neg e8] at ht
      cases ht
    unfold c160loop
    refine WK.loop ?_
    refine WK.seq ?_
    refine WK.region ?_
    refine WR.op rfl rfl (r_lss rfl rfl (q := false) (by rw [iltb_eq]; simp; omega)) rfl ?_
    refine WR.nil ?_
    refine after.seq ?_
    refine WK.seq ?_
    refine WK.cond rfl (fun h => (by cases h)) (fun _ => ?_)
    refine WK.exit ?_
    refine after.seq_exit ?_
    refine after.seq_exit ?_
    refine after.exit ?_
    refine after.seq ?_
    unfold c160end
    refine WK.seq ?_
    refine WK.region ?_
    refine WR.op rfl rfl rfl rfl ?_
    refine WR.nil ?_
    refine after.seq ?_
    refine WK.ret ?_
    refine ⟨ret_ne 0, ret_ne, [.int .i64 (-1)], (by rw [res160]; rfl), ⟨-1, rfl, ?_⟩, hext⟩
    rw [hno, List.drop_of_length_le (by omega)]
    rfl
  | succ m ih =>
    intro i hi hno st1 hext env h0 h1 h7 h8
    have hil : i < ps.length := by omega
    have hx1 := hx.ext hext
    have hb1 : st1.heap.get b = some (boxO 3 (.int .i64 n)) := by rw [hext.heap b hlt]; exact hb
    have hget : (ps.map pairC)[i]? = some (pairC ps[i]) := by rw [List.getElem?_map, List.getElem?_eq_getElem hil]; rfl
    refine WK.sub [(0, x), (1, .func (.func 118) [] [.ptr b 0]), (7, .int .i64 (ps.length : Int)), (8, .int .i64 (i : Int))] ?_ ?_
    · intro t v ht
      simp only [lookE_cons] at ht
      by_cases e0 : t = 0
      · rw [if_pos e0] at ht; subst e0; rw [h0]; exact ht
      rw [if_neg e0] at ht
      by_cases e1 : t = 1
      · rw [if_pos e1] at ht; subst e1; rw [h1]; exact ht
      rw [if_neg e1] at ht
      by_cases e7 : t = 7
      · rw [if_pos e7] at ht; subst e7; rw [h7]; exact ht
      rw [if_neg e7] at ht
      by_cases e8 : t = 8
      · rw [if_pos e8] at ht; subst e8; rw [h8]; exact ht
      rw [if_neg e8] at ht
      cases ht
    unfold c160loop
    obtain ⟨ma, off, ka, kl⟩ := hx1.at (n := i) (t := 73) un73 sz81 (by rw [List.length_map]; exact hil)
    have hdrop : ps.drop i = ps[i] :: ps.drop (i + 1) := List.drop_eq_getElem_cons hil
    rw [hdrop, List.any_cons] at hno
    have hld := fun ρ' x' h => (kl (pairC ps[i]) hget rfl ρ' 81 x' h).2 agg81 sz81 (by decide)
    refine WK.loop ?_
    refine WK.seq ?_
    refine WK.region ?_
    refine WR.op rfl rfl (r_lss rfl rfl (q := true) (by rw [iltb_eq]; simp; omega)) rfl ?_
    refine WR.nil ?_
    refine after.seq ?_
    refine WK.seq ?_
    refine WK.cond rfl (fun _ => ?_) (fun h => (by cases h))
    refine WK.skip ?_
    refine after.seq ?_
    refine WK.seq ?_
    refine WK.block ?_
    refine WK.seq ?_
    refine WK.region ?_
    refine WR.op rfl rfl rfl rfl ?_
    refine WR.op rfl rfl rfl rfl ?_
    refine WR.nil ?_
    refine after.seq ?_
    refine WK.seq ?_
    refine WK.region ?_
    refine WR.op rfl rfl rfl rfl ?_
    refine WR.op rfl rfl rfl rfl ?_
    refine WR.op rfl rfl rfl rfl ?_
    refine WR.op rfl rfl (ka rfl rfl) rfl ?_
    refine WR.op rfl rfl (hld _ _ rfl) rfl ?_
    refine WR.callV (f := 118) (first := []) (captured := [.ptr b 0]) (xs := [.agg (pairC ps[i])]) (x := .tmp 11) rfl (.inl rfl) rfl rfl rfl rfl rfl ((in1_ok hs n ps[i].1 ps[i].2 st1 b hb1 (by have := hext.nx; omega)).mono ?_)
    rintro v st2 ⟨rfl, k2⟩
    refine WR.nil ?_
    refine after.seq ?_
    refine WK.cond rfl (fun hc16_1 => ?_) (fun hc16_1 => ?_)
    · refine WK.seq ?_
      refine WK.region ?_
      refine WR.op rfl rfl rfl rfl ?_
      refine WR.op rfl rfl rfl rfl ?_
      refine WR.nil ?_
      refine after.seq ?_
      refine WK.ret ?_
      refine after.block_ret ?_
      refine after.seq_ret ?_
      refine after.seq_ret ?_
      refine after.block_ret ?_
      refine after.seq_ret ?_
      refine ⟨ret_ne 0, ret_ne, [.int .i64 (i : Int)], (by rw [res160]; rfl), ⟨(i : Int), rfl, ?_⟩, hext.trans k2⟩
      rw [hno, hc16_1, Bool.true_or, iltb_eq]
      simp only [Bool.not_eq_true', decide_eq_false_iff_not]
      omega
    · refine WK.skip ?_
      refine after.block ?_
      refine after.seq ?_
      refine WK.region ?_
      refine WR.op rfl rfl (r_arith ⟨by decide, by decide⟩ rfl rfl (add_nat (b := 1) (by omega))) rfl ?_
      refine WR.op rfl rfl rfl rfl ?_
      refine WR.nil ?_
      refine after.seq ?_
      refine ih (i + 1) (by omega) (by rw [hno, hc16_1, Bool.false_or]) st2 (hext.trans k2) _ rfl rfl rfl rfl
theorem idx160_ok (hs : ∀ xs st, sum 160 xs st = none) (hs1 : ∀ xs st, sum 118 xs st = none) {n : Int} {ps : List (Int × Int)} {x : AV} {b : Nat} {st : St} (hlen : ps.length < 1000000) (hx : Els st x 2 (ps.map pairC)) (hb : st.heap.get b = some (boxO 3 (.int .i64 n))) (hlt : b < st.next) :
    CallW (CS sum) 160 [x, .func (.func 118) [] [.ptr b 0]] st fun v st' => (∃ r : Int, v = .int .i64 r ∧ (!iltb r 0) = ps.any (inP n)) ∧ Ext st st' := by
  have hln : (ps.map pairC).length = ps.length := List.length_map _
  refine CallW.enter (hs _ _) Tryz.func160 body160 c160_of rfl ?_
  rw [nt160]
  unfold c160
  refine WK.seq ?_
  refine WK.region ?_
  refine WR.op rfl rfl rfl rfl ?_
  refine WR.nil ?_
  refine after.seq ?_
  refine WK.seq ?_
  refine WK.seq ?_
  refine WK.region ?_
  refine WR.op rfl rfl rfl rfl ?_
  refine WR.op rfl rfl (r_lenE ⟨_, un73⟩ rfl hx) rfl ?_
  refine WR.op rfl rfl rfl rfl ?_
  refine WR.nil ?_
  refine after.seq ?_
  refine WK.block ?_
  exact idx160_loop hs1 hlen hx hb hlt ps.length 0 (by omega) rfl st (Ext.refl st) _ rfl rfl (by rw [lookE_cons, lookE_cons]; rw [← hln]; rfl) rfl
/-- slices.ContainsFunc[[][2]int,[2]int] -/
def c111 : SC := (.seq (.region [⟨.assign (.const (.bool false)), some 4, none⟩])
  (.seq (.region [⟨.move (.tmp 0), some 5, none⟩, ⟨.move (.tmp 1), some 6, none⟩, ⟨.call ⟨.value (.func 160), #[(.tmp 5), (.tmp 6)], #[73, 182]⟩, some 7, none⟩, ⟨.binOp .geq 3 (.tmp 7) (.const (.int .i64 0)) 3, some 8, none⟩, ⟨.assign (.tmp 8), some 4, none⟩])
  .ret))
theorem c111_of : SC.of Tryz.f111.body.get! = c111 := by kernel_rfl
theorem body111 : Tryz.f111.body = some (Tryz.f111.body.get!) := by kernel_rfl
theorem nt111 : Tryz.f111.ntmps = 9 := by kernel_rfl
theorem res111 : Tryz.f111.results.toList = [.tmp 4] := by kernel_rfl
theorem has111_ok (hs : ∀ xs st, sum 111 xs st = none) (hs0 : ∀ xs st, sum 160 xs st = none) (hs1 : ∀ xs st, sum 118 xs st = none) {n : Int} {ps : List (Int × Int)} {x : AV} {b : Nat} {st : St} (hlen : ps.length < 1000000) (hx : Els st x 2 (ps.map pairC)) (hb : st.heap.get b = some (boxO 3 (.int .i64 n))) (hlt : b < st.next) :
    CallW (CS sum) 111 [x, .func (.func 118) [] [.ptr b 0]] st fun v st' => v = .bool (ps.any (inP n)) ∧ Ext st st' := by
  refine CallW.enter (hs _ _) Tryz.func111 body111 c111_of rfl ?_
  rw [nt111]
  unfold c111
  refine WK.seq ?_
  refine WK.region ?_
  refine WR.op rfl rfl rfl rfl ?_
  refine WR.nil ?_
  refine after.seq ?_
  refine WK.seq ?_
  refine WK.region ?_
  refine WR.op rfl rfl rfl rfl ?_
  refine WR.op rfl rfl rfl rfl ?_
  refine WR.call (f := 160) («as» := [x, .func (.func 118) [] [.ptr b 0]]) rfl (.inl rfl) rfl rfl rfl rfl ((idx160_ok hs0 hs1 hlen hx hb hlt).mono ?_)
  rintro v st2 ⟨⟨r, rfl, hr⟩, k2⟩
  refine WR.op rfl rfl (r_geq rfl rfl hr) rfl ?_
  refine WR.op rfl rfl rfl rfl ?_
  refine WR.nil ?_
  refine after.seq ?_
  refine WK.ret ?_
  exact ⟨ret_ne 0, ret_ne, [.bool (ps.any (inP n))], (by rw [res111]; rfl), rfl, k2⟩
/-- fleuron/system.In -/
def c78 : SC := (.seq (.region [⟨.box 75 (.tmp 0), some 2, none⟩, ⟨.box 3 (.tmp 1), some 3, none⟩, ⟨.assign (.const (.bool false)), some 4, none⟩])
  (.seq (.seq (.region [⟨.fieldAddr 75 (.tmp 2) 8, some 5, none⟩, ⟨.load 4 (.tmp 5), some 6, none⟩, ⟨.unOp .not 4 (.tmp 6), some 7, none⟩])
  (.cond (.tmp 7) (.seq (.region [⟨.fieldAddr 75 (.tmp 2) 9, some 8, none⟩, ⟨.load 73 (.tmp 8), some 9, none⟩, ⟨.makeFunc (.func 118) #[] #[(.tmp 3)], some 10, none⟩, ⟨.call ⟨.value (.func 111), #[(.tmp 9), (.tmp 10)], #[73, 182]⟩, some 11, none⟩, ⟨.assign (.tmp 11), some 4, none⟩])
  .ret) .skip))
  (.seq (.seq (.region [⟨.fieldAddr 75 (.tmp 2) 1, some 12, none⟩, ⟨.load 9 (.tmp 12), some 13, none⟩])
  (.block 0 (.seq (.seq (.region [⟨.binOp .eql 9 (.tmp 13) (.const (.string ⟨#[99, 121, 99, 108, 105, 99]⟩)) 9, some 15, none⟩, ⟨.assign (.tmp 15), some 14, none⟩])
  (.cond (.tmp 14) .skip (.seq (.region [⟨.binOp .eql 9 (.tmp 13) (.const (.string ⟨#[110, 117, 109, 101, 114, 105, 99]⟩)) 9, some 16, none⟩, ⟨.assign (.tmp 16), some 14, none⟩])
  (.cond (.tmp 14) .skip (.region [⟨.binOp .eql 9 (.tmp 13) (.const (.string ⟨#[102, 105, 120, 101, 100]⟩)) 9, some 17, none⟩, ⟨.assign (.tmp 17), some 14, none⟩])))))
  (.cond (.tmp 14) (.seq (.region [⟨.assign (.const (.bool true)), some 4, none⟩])
  .ret) (.seq (.seq (.region [⟨.binOp .eql 9 (.tmp 13) (.const (.string ⟨#[97, 108, 112, 104, 97, 98, 101, 116, 105, 99]⟩)) 9, some 19, none⟩, ⟨.assign (.tmp 19), some 18, none⟩])
  (.cond (.tmp 18) .skip (.region [⟨.binOp .eql 9 (.tmp 13) (.const (.string ⟨#[115, 121, 109, 98, 111, 108, 105, 99]⟩)) 9, some 20, none⟩, ⟨.assign (.tmp 20), some 18, none⟩])))
  (.cond (.tmp 18) (.seq (.region [⟨.load 3 (.tmp 3), some 21, none⟩, ⟨.binOp .gtr 3 (.tmp 21) (.const (.int .i64 0)) 3, some 22, none⟩, ⟨.assign (.tmp 22), some 4, none⟩])
  .ret) (.seq (.region [⟨.binOp .eql 9 (.tmp 13) (.const (.string ⟨#[97, 100, 100, 105, 116, 105, 118, 101]⟩)) 9, some 24, none⟩, ⟨.assign (.tmp 24), some 23, none⟩])
  (.cond (.tmp 23) (.seq (.region [⟨.load 3 (.tmp 3), some 25, none⟩, ⟨.binOp .geq 3 (.tmp 25) (.const (.int .i64 0)) 3, some 26, none⟩, ⟨.assign (.tmp 26), some 4, none⟩])
  .ret) .skip))))))))
  (.seq (.region [⟨.assign (.const (.bool false)), some 4, none⟩])
  .ret))))
theorem c78_of : SC.of Tryz.f78.body.get! = c78 := by kernel_rfl
theorem body78 : Tryz.f78.body = some (Tryz.f78.body.get!) := by kernel_rfl
theorem nt78 : Tryz.f78.ntmps = 27 := by kernel_rfl
theorem res78 : Tryz.f78.results.toList = [.tmp 4] := by kernel_rfl
def tCyclic : List UInt8 := [99, 121, 99, 108, 105, 99]
def tFixed : List UInt8 := [102, 105, 120, 101, 100]
noncomputable def inSys (sys : List UInt8) (n : Int) : Bool := bif eqL sys tCyclic || (eqL sys tNumeric || eqL sys tFixed) then true else bif eqL sys tAlphabetic || eqL sys tSymbolic then iltb 0 n else bif eqL sys tAdditive then !iltb n 0 else false
noncomputable def inB (d : D) (ps : List (Int × Int)) (n : Int) : Bool := bif d.auto then inSys d.sys n else ps.any (inP n)
theorem in_ok (hs : ∀ f ∈ [78, 111, 160, 118], ∀ xs st, sum f xs st = none) {d : D} (hd : d.Plain) (n : Int) {ps : List (Int × Int)} {st : St} (hlen : ps.length < 1000000) (hx : d.auto = false → Els st d.range 2 (ps.map pairC)) :
    CallW (CS sum) 78 [d.av, .int .i64 n] st fun v st' => v = .bool (inB d ps n) ∧ Ext st st' := by
  have h2 := push_self st (boxO 75 d.av)
  have h3 := push_self (st.push (boxO 75 d.av)) (boxO 3 (.int .i64 n))
  have hlt : st.next < (st.push (boxO 75 d.av)).next := by rw [push_next]; omega
  have h2' : ((st.push (boxO 75 d.av)).push (boxO 3 (.int .i64 n))).heap.get st.next = some (boxO 75 d.av) := by rw [push_lt _ _ hlt]; exact h2
  have hext : Ext st ((st.push (boxO 75 d.av)).push (boxO 3 (.int .i64 n))) := ((Ext.refl st).push _).push _
  have hlt3 : (st.push (boxO 75 d.av)).next < ((st.push (boxO 75 d.av)).push (boxO 3 (.int .i64 n))).next := by rw [push_next (st.push (boxO 75 d.av))]; omega
  refine CallW.enter (hs 78 (by simp) _ _) Tryz.func78 body78 c78_of rfl ?_
  rw [nt78]
  unfold c78
  refine WK.seq ?_
  refine WK.region ?_
  refine WR.op rfl rfl (r_box rfl hd.ok) rfl ?_
  refine WR.op rfl rfl (r_box rfl rfl) rfl ?_
  refine WR.op rfl rfl rfl rfl ?_
  refine WR.nil ?_
  refine after.seq ?_
  refine WK.seq ?_
  refine WK.seq ?_
  refine WK.region ?_
  refine WR.op rfl rfl (r_fa fo75_8 rfl) rfl ?_
  refine WR.op rfl rfl (r_ld agg4 rfl h2' rfl) rfl ?_
  refine WR.op rfl rfl rfl rfl ?_
  refine WR.nil ?_
  refine after.seq ?_
  refine WK.cond rfl (fun hc7_1 => ?_) (fun hc7_1 => ?_)
  · refine WK.seq ?_
    refine WK.region ?_
    refine WR.op rfl rfl (r_fa fo75_9 rfl) rfl ?_
    refine WR.op rfl rfl (r_ld agg73 rfl h2' rfl) rfl ?_
    refine WR.op rfl rfl rfl rfl ?_
    refine WR.call (f := 111) («as» := [d.range, .func (.func 118) [] [.ptr (st.push (boxO 75 d.av)).next 0]]) rfl (.inl rfl) rfl rfl rfl rfl ((has111_ok (hs 111 (by simp)) (hs 160 (by simp)) (hs 118 (by simp)) hlen ((hx (by simpa using hc7_1)).ext hext) h3 hlt3).mono ?_)
    rintro v st2 ⟨rfl, k2⟩
    refine WR.op rfl rfl rfl rfl ?_
    refine WR.nil ?_
    refine after.seq ?_
    refine WK.ret ?_
    refine after.seq_ret ?_
    refine ⟨ret_ne 0, ret_ne, [.bool (ps.any (inP n))], (by rw [res78]; rfl), ?_, hext.trans k2⟩
    show AV.bool _ = _
    unfold inB
    simp_all
  · refine WK.skip ?_
    refine after.seq ?_
    refine WK.seq ?_
    refine WK.seq ?_
    refine WK.region ?_
    refine WR.op rfl rfl (r_fa fo75_1 rfl) rfl ?_
    refine WR.op rfl rfl (r_ld agg9 rfl h2' rfl) rfl ?_
    refine WR.nil ?_
    refine after.seq ?_
    refine WK.block ?_
    refine WK.seq ?_
    refine WK.seq ?_
    refine WK.region ?_
    refine WR.op rfl rfl rfl rfl ?_
    refine WR.op rfl rfl rfl rfl ?_
    refine WR.nil ?_
    refine after.seq ?_
    refine WK.cond rfl (fun hc14_2 => ?_) (fun hc14_2 => ?_)
    · refine WK.skip ?_
      refine after.seq ?_
      refine WK.cond rfl (fun hc14_3 => ?_) (fun hc14_3 => ?_)
      · refine WK.seq ?_
        refine WK.region ?_
        refine WR.op rfl rfl rfl rfl ?_
        refine WR.nil ?_
        refine after.seq ?_
        refine WK.ret ?_
        refine after.block_ret ?_
        refine after.seq_ret ?_
        refine ⟨ret_ne 0, ret_ne, [.bool true], (by rw [res78]; rfl), ?_, hext⟩
        show AV.bool _ = _
        unfold inB inSys tCyclic tFixed tSymbolic tAlphabetic tNumeric tAdditive
        simp_all
      · refine WK.seq ?_
        refine WK.seq ?_
        refine WK.region ?_
        refine WR.op rfl rfl rfl rfl ?_
        refine WR.op rfl rfl rfl rfl ?_
        refine WR.nil ?_
        refine after.seq ?_
        refine WK.cond rfl (fun hc18_4 => ?_) (fun hc18_4 => ?_)
        · refine WK.skip ?_
          refine after.seq ?_
          refine WK.cond rfl (fun hc18_5 => ?_) (fun hc18_5 => ?_)
          · refine WK.seq ?_
            refine WK.region ?_
            refine WR.op rfl rfl (r_ld agg3 rfl h3 rfl) rfl ?_
            refine WR.op rfl rfl rfl rfl ?_
            refine WR.op rfl rfl rfl rfl ?_
            refine WR.nil ?_
            refine after.seq ?_
            refine WK.ret ?_
            refine after.block_ret ?_
            refine after.seq_ret ?_
            refine ⟨ret_ne 0, ret_ne, [.bool (iltb 0 n)], (by rw [res78]; rfl), ?_, hext⟩
            show AV.bool _ = _
            unfold inB inSys tCyclic tFixed tSymbolic tAlphabetic tNumeric tAdditive
            simp_all
          · refine WK.seq ?_
            refine WK.region ?_
            refine WR.op rfl rfl rfl rfl ?_
            refine WR.op rfl rfl rfl rfl ?_
            refine WR.nil ?_
            refine after.seq ?_
            refine WK.cond rfl (fun hc23_6 => ?_) (fun hc23_6 => ?_)
            · refine WK.seq ?_
              refine WK.region ?_
              refine WR.op rfl rfl (r_ld agg3 rfl h3 rfl) rfl ?_
              refine WR.op rfl rfl rfl rfl ?_
              refine WR.op rfl rfl rfl rfl ?_
              refine WR.nil ?_
              refine after.seq ?_
              refine WK.ret ?_
              refine after.block_ret ?_
              refine after.seq_ret ?_
              refine ⟨ret_ne 0, ret_ne, [.bool (!iltb n 0)], (by rw [res78]; rfl), ?_, hext⟩
              show AV.bool _ = _
              unfold inB inSys tCyclic tFixed tSymbolic tAlphabetic tNumeric tAdditive
              simp_all
            · refine WK.skip ?_
              refine after.block ?_
              refine after.seq ?_
              refine WK.seq ?_
              refine WK.region ?_
              refine WR.op rfl rfl rfl rfl ?_
              refine WR.nil ?_
              refine after.seq ?_
              refine WK.ret ?_
              refine ⟨ret_ne 0, ret_ne, [.bool false], (by rw [res78]; rfl), ?_, hext⟩
              show AV.bool _ = _
              unfold inB inSys tCyclic tFixed tSymbolic tAlphabetic tNumeric tAdditive
              simp_all
        · refine WK.region ?_
          refine WR.op rfl rfl rfl rfl ?_
          refine WR.op rfl rfl rfl rfl ?_
          refine WR.nil ?_
          refine after.seq ?_
          refine WK.cond rfl (fun hc18_7 => ?_) (fun hc18_7 => ?_)
          · refine WK.seq ?_
            refine WK.region ?_
            refine WR.op rfl rfl (r_ld agg3 rfl h3 rfl) rfl ?_
            refine WR.op rfl rfl rfl rfl ?_
            refine WR.op rfl rfl rfl rfl ?_
            refine WR.nil ?_
            refine after.seq ?_
            refine WK.ret ?_
            refine after.block_ret ?_
            refine after.seq_ret ?_
            refine ⟨ret_ne 0, ret_ne, [.bool (iltb 0 n)], (by rw [res78]; rfl), ?_, hext⟩
            show AV.bool _ = _
            unfold inB inSys tCyclic tFixed tSymbolic tAlphabetic tNumeric tAdditive
            simp_all
          · refine WK.seq ?_
            refine WK.region ?_
            refine WR.op rfl rfl rfl rfl ?_
            refine WR.op rfl rfl rfl rfl ?_
            refine WR.nil ?_
            refine after.seq ?_
            refine WK.cond rfl (fun hc23_8 => ?_) (fun hc23_8 => ?_)
            · refine WK.seq ?_
              refine WK.region ?_
              refine WR.op rfl rfl (r_ld agg3 rfl h3 rfl) rfl ?_
              refine WR.op rfl rfl rfl rfl ?_
              refine WR.op rfl rfl rfl rfl ?_
              refine WR.nil ?_
              refine after.seq ?_
              refine WK.ret ?_
              refine after.block_ret ?_
              refine after.seq_ret ?_
              refine ⟨ret_ne 0, ret_ne, [.bool (!iltb n 0)], (by rw [res78]; rfl), ?_, hext⟩
              show AV.bool _ = _
              unfold inB inSys tCyclic tFixed tSymbolic tAlphabetic tNumeric tAdditive
              simp_all
            · refine WK.skip ?_
              refine after.block ?_
              refine after.seq ?_
              refine WK.seq ?_
              refine WK.region ?_
              refine WR.op rfl rfl rfl rfl ?_
              refine WR.nil ?_
              refine after.seq ?_
              refine WK.ret ?_
              refine ⟨ret_ne 0, ret_ne, [.bool false], (by rw [res78]; rfl), ?_, hext⟩
              show AV.bool _ = _
              unfold inB inSys tCyclic tFixed tSymbolic tAlphabetic tNumeric tAdditive
              simp_all
    · refine WK.seq ?_
      refine WK.region ?_
      refine WR.op rfl rfl rfl rfl ?_
      refine WR.op rfl rfl rfl rfl ?_
      refine WR.nil ?_
      refine after.seq ?_
      refine WK.cond rfl (fun hc14_9 => ?_) (fun hc14_9 => ?_)
      · refine WK.skip ?_
        refine after.seq ?_
        refine WK.cond rfl (fun hc14_10 => ?_) (fun hc14_10 => ?_)
        · refine WK.seq ?_
          refine WK.region ?_
          refine WR.op rfl rfl rfl rfl ?_
          refine WR.nil ?_
          refine after.seq ?_
          refine WK.ret ?_
          refine after.block_ret ?_
          refine after.seq_ret ?_
          refine ⟨ret_ne 0, ret_ne, [.bool true], (by rw [res78]; rfl), ?_, hext⟩
          show AV.bool _ = _
          unfold inB inSys tCyclic tFixed tSymbolic tAlphabetic tNumeric tAdditive
          simp_all
        · refine WK.seq ?_
          refine WK.seq ?_
          refine WK.region ?_
          refine WR.op rfl rfl rfl rfl ?_
          refine WR.op rfl rfl rfl rfl ?_
          refine WR.nil ?_
          refine after.seq ?_
          refine WK.cond rfl (fun hc18_11 => ?_) (fun hc18_11 => ?_)
          · refine WK.skip ?_
            refine after.seq ?_
            refine WK.cond rfl (fun hc18_12 => ?_) (fun hc18_12 => ?_)
            · refine WK.seq ?_
              refine WK.region ?_
              refine WR.op rfl rfl (r_ld agg3 rfl h3 rfl) rfl ?_
              refine WR.op rfl rfl rfl rfl ?_
              refine WR.op rfl rfl rfl rfl ?_
              refine WR.nil ?_
              refine after.seq ?_
              refine WK.ret ?_
              refine after.block_ret ?_
              refine after.seq_ret ?_
              refine ⟨ret_ne 0, ret_ne, [.bool (iltb 0 n)], (by rw [res78]; rfl), ?_, hext⟩
              show AV.bool _ = _
              unfold inB inSys tCyclic tFixed tSymbolic tAlphabetic tNumeric tAdditive
              simp_all
            · refine WK.seq ?_
              refine WK.region ?_
              refine WR.op rfl rfl rfl rfl ?_
              refine WR.op rfl rfl rfl rfl ?_
              refine WR.nil ?_
              refine after.seq ?_
              refine WK.cond rfl (fun hc23_13 => ?_) (fun hc23_13 => ?_)
              · refine WK.seq ?_
                refine WK.region ?_
                refine WR.op rfl rfl (r_ld agg3 rfl h3 rfl) rfl ?_
                refine WR.op rfl rfl rfl rfl ?_
                refine WR.op rfl rfl rfl rfl ?_
                refine WR.nil ?_
                refine after.seq ?_
                refine WK.ret ?_
                refine after.block_ret ?_
                refine after.seq_ret ?_
                refine ⟨ret_ne 0, ret_ne, [.bool (!iltb n 0)], (by rw [res78]; rfl), ?_, hext⟩
                show AV.bool _ = _
                unfold inB inSys tCyclic tFixed tSymbolic tAlphabetic tNumeric tAdditive
                simp_all
              · refine WK.skip ?_
                refine after.block ?_
                refine after.seq ?_
                refine WK.seq ?_
                refine WK.region ?_
                refine WR.op rfl rfl rfl rfl ?_
                refine WR.nil ?_
                refine after.seq ?_
                refine WK.ret ?_
                refine ⟨ret_ne 0, ret_ne, [.bool false], (by rw [res78]; rfl), ?_, hext⟩
                show AV.bool _ = _
                unfold inB inSys tCyclic tFixed tSymbolic tAlphabetic tNumeric tAdditive
                simp_all
          · refine WK.region ?_
            refine WR.op rfl rfl rfl rfl ?_
            refine WR.op rfl rfl rfl rfl ?_
            refine WR.nil ?_
            refine after.seq ?_
            refine WK.cond rfl (fun hc18_14 => ?_) (fun hc18_14 => ?_)
            · refine WK.seq ?_
              refine WK.region ?_
              refine WR.op rfl rfl (r_ld agg3 rfl h3 rfl) rfl ?_
              refine WR.op rfl rfl rfl rfl ?_
              refine WR.op rfl rfl rfl rfl ?_
              refine WR.nil ?_
              refine after.seq ?_
              refine WK.ret ?_
              refine after.block_ret ?_
              refine after.seq_ret ?_
              refine ⟨ret_ne 0, ret_ne, [.bool (iltb 0 n)], (by rw [res78]; rfl), ?_, hext⟩
              show AV.bool _ = _
              unfold inB inSys tCyclic tFixed tSymbolic tAlphabetic tNumeric tAdditive
              simp_all
            · refine WK.seq ?_
              refine WK.region ?_
              refine WR.op rfl rfl rfl rfl ?_
              refine WR.op rfl rfl rfl rfl ?_
              refine WR.nil ?_
              refine after.seq ?_
              refine WK.cond rfl (fun hc23_15 => ?_) (fun hc23_15 => ?_)
              · refine WK.seq ?_
                refine WK.region ?_
                refine WR.op rfl rfl (r_ld agg3 rfl h3 rfl) rfl ?_
                refine WR.op rfl rfl rfl rfl ?_
                refine WR.op rfl rfl rfl rfl ?_
                refine WR.nil ?_
                refine after.seq ?_
                refine WK.ret ?_
                refine after.block_ret ?_
                refine after.seq_ret ?_
                refine ⟨ret_ne 0, ret_ne, [.bool (!iltb n 0)], (by rw [res78]; rfl), ?_, hext⟩
                show AV.bool _ = _
                unfold inB inSys tCyclic tFixed tSymbolic tAlphabetic tNumeric tAdditive
                simp_all
              · refine WK.skip ?_
                refine after.block ?_
                refine after.seq ?_
                refine WK.seq ?_
                refine WK.region ?_
                refine WR.op rfl rfl rfl rfl ?_
                refine WR.nil ?_
                refine after.seq ?_
                refine WK.ret ?_
                refine ⟨ret_ne 0, ret_ne, [.bool false], (by rw [res78]; rfl), ?_, hext⟩
                show AV.bool _ = _
                unfold inB inSys tCyclic tFixed tSymbolic tAlphabetic tNumeric tAdditive
                simp_all
      · refine WK.region ?_
        refine WR.op rfl rfl rfl rfl ?_
        refine WR.op rfl rfl rfl rfl ?_
        refine WR.nil ?_
        refine after.seq ?_
        refine WK.cond rfl (fun hc14_16 => ?_) (fun hc14_16 => ?_)
        · refine WK.seq ?_
          refine WK.region ?_
          refine WR.op rfl rfl rfl rfl ?_
          refine WR.nil ?_
          refine after.seq ?_
          refine WK.ret ?_
          refine after.block_ret ?_
          refine after.seq_ret ?_
          refine ⟨ret_ne 0, ret_ne, [.bool true], (by rw [res78]; rfl), ?_, hext⟩
          show AV.bool _ = _
          unfold inB inSys tCyclic tFixed tSymbolic tAlphabetic tNumeric tAdditive
          simp_all
        · refine WK.seq ?_
          refine WK.seq ?_
          refine WK.region ?_
          refine WR.op rfl rfl rfl rfl ?_
          refine WR.op rfl rfl rfl rfl ?_
          refine WR.nil ?_
          refine after.seq ?_
          refine WK.cond rfl (fun hc18_17 => ?_) (fun hc18_17 => ?_)
          · refine WK.skip ?_
            refine after.seq ?_
            refine WK.cond rfl (fun hc18_18 => ?_) (fun hc18_18 => ?_)
            · refine WK.seq ?_
              refine WK.region ?_
              refine WR.op rfl rfl (r_ld agg3 rfl h3 rfl) rfl ?_
              refine WR.op rfl rfl rfl rfl ?_
              refine WR.op rfl rfl rfl rfl ?_
              refine WR.nil ?_
              refine after.seq ?_
              refine WK.ret ?_
              refine after.block_ret ?_
              refine after.seq_ret ?_
              refine ⟨ret_ne 0, ret_ne, [.bool (iltb 0 n)], (by rw [res78]; rfl), ?_, hext⟩
              show AV.bool _ = _
              unfold inB inSys tCyclic tFixed tSymbolic tAlphabetic tNumeric tAdditive
              simp_all
            · refine WK.seq ?_
              refine WK.region ?_
              refine WR.op rfl rfl rfl rfl ?_
              refine WR.op rfl rfl rfl rfl ?_
              refine WR.nil ?_
              refine after.seq ?_
              refine WK.cond rfl (fun hc23_19 => ?_) (fun hc23_19 => ?_)
              · refine WK.seq ?_
                refine WK.region ?_
                refine WR.op rfl rfl (r_ld agg3 rfl h3 rfl) rfl ?_
                refine WR.op rfl rfl rfl rfl ?_
                refine WR.op rfl rfl rfl rfl ?_
                refine WR.nil ?_
                refine after.seq ?_
                refine WK.ret ?_
                refine after.block_ret ?_
                refine after.seq_ret ?_
                refine ⟨ret_ne 0, ret_ne, [.bool (!iltb n 0)], (by rw [res78]; rfl), ?_, hext⟩
                show AV.bool _ = _
                unfold inB inSys tCyclic tFixed tSymbolic tAlphabetic tNumeric tAdditive
                simp_all
              · refine WK.skip ?_
                refine after.block ?_
                refine after.seq ?_
                refine WK.seq ?_
                refine WK.region ?_
                refine WR.op rfl rfl rfl rfl ?_
                refine WR.nil ?_
                refine after.seq ?_
                refine WK.ret ?_
                refine ⟨ret_ne 0, ret_ne, [.bool false], (by rw [res78]; rfl), ?_, hext⟩
                show AV.bool _ = _
                unfold inB inSys tCyclic tFixed tSymbolic tAlphabetic tNumeric tAdditive
                simp_all
          · refine WK.region ?_
            refine WR.op rfl rfl rfl rfl ?_
            refine WR.op rfl rfl rfl rfl ?_
            refine WR.nil ?_
            refine after.seq ?_
            refine WK.cond rfl (fun hc18_20 => ?_) (fun hc18_20 => ?_)
            · refine WK.seq ?_
              refine WK.region ?_
              refine WR.op rfl rfl (r_ld agg3 rfl h3 rfl) rfl ?_
              refine WR.op rfl rfl rfl rfl ?_
              refine WR.op rfl rfl rfl rfl ?_
              refine WR.nil ?_
              refine after.seq ?_
              refine WK.ret ?_
              refine after.block_ret ?_
              refine after.seq_ret ?_
              refine ⟨ret_ne 0, ret_ne, [.bool (iltb 0 n)], (by rw [res78]; rfl), ?_, hext⟩
              show AV.bool _ = _
              unfold inB inSys tCyclic tFixed tSymbolic tAlphabetic tNumeric tAdditive
              simp_all
            · refine WK.seq ?_
              refine WK.region ?_
              refine WR.op rfl rfl rfl rfl ?_
              refine WR.op rfl rfl rfl rfl ?_
              refine WR.nil ?_
              refine after.seq ?_
              refine WK.cond rfl (fun hc23_21 => ?_) (fun hc23_21 => ?_)
              · refine WK.seq ?_
                refine WK.region ?_
                refine WR.op rfl rfl (r_ld agg3 rfl h3 rfl) rfl ?_
                refine WR.op rfl rfl rfl rfl ?_
                refine WR.op rfl rfl rfl rfl ?_
                refine WR.nil ?_
                refine after.seq ?_
                refine WK.ret ?_
                refine after.block_ret ?_
                refine after.seq_ret ?_
                refine ⟨ret_ne 0, ret_ne, [.bool (!iltb n 0)], (by rw [res78]; rfl), ?_, hext⟩
                show AV.bool _ = _
                unfold inB inSys tCyclic tFixed tSymbolic tAlphabetic tNumeric tAdditive
                simp_all
              · refine WK.skip ?_
                refine after.block ?_
                refine after.seq ?_
                refine WK.seq ?_
                refine WK.region ?_
                refine WR.op rfl rfl rfl rfl ?_
                refine WR.nil ?_
                refine after.seq ?_
                refine WK.ret ?_
                refine ⟨ret_ne 0, ret_ne, [.bool false], (by rw [res78]; rfl), ?_, hext⟩
                show AV.bool _ = _
                unfold inB inSys tCyclic tFixed tSymbolic tAlphabetic tNumeric tAdditive
                simp_all
end Go.Proofs.Tz

namespace Go.Proofs.Tz
open Go Go.AE Go.RowKit Go.Proofs
set_option maxRecDepth 100000
variable {sum : FuncId → List AV → St → Option (AV × St)}
theorem un55 : und Tryz.prog 55 = some (.slice 3) := by kernel_rfl
theorem by3 : bytesT Tryz.prog 3 = some 8 := by kernel_rfl
theorem ze3 : zeroT Tryz.prog 3 = some (.int .i64 0) := by kernel_rfl
theorem rem_nat {a b : Nat} (hb : b ≠ 0) (_h : a < 9223372036854775808) : intBin .rem .i64 (a : Int) (b : Int) = some (.int .i64 ((a % b : Nat) : Int)) := by
  have h0 : ieqb (b : Int) 0 = false := by rw [ieqb_eq]; simp; exact hb
  have h1 : (a : Int).tmod b = ((a % b : Nat) : Int) := rfl
  simp only [intBin, h0, cnd_false]
  rw [h1]
/-- Numbers' cells. -/
def intC (a : Nat) : List AV := [.int .i64 (a : Int)]
/-- The digits but the last. -/
def posZ (k : Nat) : Nat → Nat → List Nat
  | 0, _ => []
  | f + 1, n => if k ≤ n then n / k % k :: posZ k f (n / k) else []
def posA (k : Nat) : Nat → Nat → List Nat
  | 0, _ => []
  | f + 1, n => if 0 < n then (n - 1) % k :: posA k f ((n - 1) / k) else []
/-- A number's digits, the last one first. -/
def digs (zero : Bool) (k n : Nat) : List Nat := bif zero then n % k :: posZ k 40 n else posA k 40 n
/-- fleuron/system.positional -/
def c120 : SC := (.seq (.region [⟨.assign (.const (.slice none 0 0)), some 6, none⟩])
  (.seq (.seq (.region [⟨.move (.tmp 2), some 7, none⟩])
  (.cond (.tmp 7) (.seq (.seq (.region [⟨.move (.tmp 6), some 8, none⟩, ⟨.move (.tmp 0), some 9, none⟩, ⟨.move (.tmp 1), some 10, none⟩, ⟨.binOp .rem 3 (.tmp 9) (.tmp 10) 3, some 11, none⟩, ⟨.buildSlice 55 1 #[(0, (.tmp 11))], some 12, none⟩, ⟨.call ⟨.builtin .append, #[(.tmp 8), (.tmp 12)], #[55, 55]⟩, some 13, none⟩, ⟨.assign (.tmp 13), some 6, none⟩])
  (.block 0 (.loop (.seq (.seq (.region [⟨.move (.tmp 0), some 14, none⟩, ⟨.move (.tmp 1), some 15, none⟩, ⟨.binOp .geq 3 (.tmp 14) (.tmp 15) 3, some 16, none⟩])
  (.cond (.tmp 16) .skip (.exit 0)))
  (.seq (.block 1 (.region [⟨.move (.tmp 0), some 23, none⟩, ⟨.move (.tmp 1), some 24, none⟩, ⟨.binOp .quo 3 (.tmp 23) (.tmp 24) 3, some 25, none⟩, ⟨.assign (.tmp 25), some 0, none⟩]))
  (.region [⟨.move (.tmp 6), some 17, none⟩, ⟨.move (.tmp 0), some 18, none⟩, ⟨.move (.tmp 1), some 19, none⟩, ⟨.binOp .rem 3 (.tmp 18) (.tmp 19) 3, some 20, none⟩, ⟨.buildSlice 55 1 #[(0, (.tmp 20))], some 21, none⟩, ⟨.call ⟨.builtin .append, #[(.tmp 17), (.tmp 21)], #[55, 55]⟩, some 22, none⟩, ⟨.assign (.tmp 22), some 6, none⟩]))))))
  (.seq (.region [⟨.move (.tmp 6), some 26, none⟩, ⟨.assign (.tmp 26), some 6, none⟩])
  .ret)) .skip))
  (.seq (.block 2 (.loop (.seq (.seq (.region [⟨.move (.tmp 0), some 27, none⟩, ⟨.binOp .gtr 3 (.tmp 27) (.const (.int .i64 0)) 3, some 28, none⟩])
  (.cond (.tmp 28) .skip (.exit 2)))
  (.seq (.block 3 (.region [⟨.move (.tmp 6), some 33, none⟩, ⟨.move (.tmp 0), some 34, none⟩, ⟨.binOp .sub 3 (.tmp 34) (.const (.int .i64 1)) 3, some 35, none⟩, ⟨.move (.tmp 1), some 36, none⟩, ⟨.binOp .rem 3 (.tmp 35) (.tmp 36) 3, some 37, none⟩, ⟨.buildSlice 55 1 #[(0, (.tmp 37))], some 38, none⟩, ⟨.call ⟨.builtin .append, #[(.tmp 33), (.tmp 38)], #[55, 55]⟩, some 39, none⟩, ⟨.assign (.tmp 39), some 6, none⟩]))
  (.region [⟨.move (.tmp 0), some 29, none⟩, ⟨.binOp .sub 3 (.tmp 29) (.const (.int .i64 1)) 3, some 30, none⟩, ⟨.move (.tmp 1), some 31, none⟩, ⟨.binOp .quo 3 (.tmp 30) (.tmp 31) 3, some 32, none⟩, ⟨.assign (.tmp 32), some 0, none⟩])))))
  (.seq (.region [⟨.move (.tmp 6), some 40, none⟩, ⟨.assign (.tmp 40), some 6, none⟩])
  .ret))))
theorem c120_of : SC.of Tryz.f120.body.get! = c120 := by kernel_rfl
theorem body120 : Tryz.f120.body = some (Tryz.f120.body.get!) := by kernel_rfl
theorem nt120 : Tryz.f120.ntmps = 41 := by kernel_rfl
theorem res120 : Tryz.f120.results.toList = [.tmp 6] := by kernel_rfl
def c120z : SC := (.loop (.seq (.seq (.region [⟨.move (.tmp 0), some 14, none⟩, ⟨.move (.tmp 1), some 15, none⟩, ⟨.binOp .geq 3 (.tmp 14) (.tmp 15) 3, some 16, none⟩])
  (.cond (.tmp 16) .skip (.exit 0)))
  (.seq (.block 1 (.region [⟨.move (.tmp 0), some 23, none⟩, ⟨.move (.tmp 1), some 24, none⟩, ⟨.binOp .quo 3 (.tmp 23) (.tmp 24) 3, some 25, none⟩, ⟨.assign (.tmp 25), some 0, none⟩]))
  (.region [⟨.move (.tmp 6), some 17, none⟩, ⟨.move (.tmp 0), some 18, none⟩, ⟨.move (.tmp 1), some 19, none⟩, ⟨.binOp .rem 3 (.tmp 18) (.tmp 19) 3, some 20, none⟩, ⟨.buildSlice 55 1 #[(0, (.tmp 20))], some 21, none⟩, ⟨.call ⟨.builtin .append, #[(.tmp 17), (.tmp 21)], #[55, 55]⟩, some 22, none⟩, ⟨.assign (.tmp 22), some 6, none⟩]))))
def c120a : SC := (.loop (.seq (.seq (.region [⟨.move (.tmp 0), some 27, none⟩, ⟨.binOp .gtr 3 (.tmp 27) (.const (.int .i64 0)) 3, some 28, none⟩])
  (.cond (.tmp 28) .skip (.exit 2)))
  (.seq (.block 3 (.region [⟨.move (.tmp 6), some 33, none⟩, ⟨.move (.tmp 0), some 34, none⟩, ⟨.binOp .sub 3 (.tmp 34) (.const (.int .i64 1)) 3, some 35, none⟩, ⟨.move (.tmp 1), some 36, none⟩, ⟨.binOp .rem 3 (.tmp 35) (.tmp 36) 3, some 37, none⟩, ⟨.buildSlice 55 1 #[(0, (.tmp 37))], some 38, none⟩, ⟨.call ⟨.builtin .append, #[(.tmp 33), (.tmp 38)], #[55, 55]⟩, some 39, none⟩, ⟨.assign (.tmp 39), some 6, none⟩]))
  (.region [⟨.move (.tmp 0), some 29, none⟩, ⟨.binOp .sub 3 (.tmp 29) (.const (.int .i64 1)) 3, some 30, none⟩, ⟨.move (.tmp 1), some 31, none⟩, ⟨.binOp .quo 3 (.tmp 30) (.tmp 31) 3, some 32, none⟩, ⟨.assign (.tmp 32), some 0, none⟩]))))
theorem posZ_loop {k : Nat} (hk : 2 ≤ k) (hk2 : k < 1000000) {st0 : St} {ks : List Kont} {Q : Post3} : ∀ (m n : Nat), n < 2 ^ m → m ≤ 40 → ∀ (l : List Nat) (x : AV) (f : Nat) (st : St), l.length + m ≤ 1000000 → IsRow st x f 3 1 (l.map intC) → Ext st0 st → (x = .nils ∨ st0.next ≤ f) → ∀ env, lookE 0 env = some (.int .i64 (n : Int)) → lookE 1 env = some (.int .i64 (k : Int)) → lookE 6 env = some x →
    (∀ env' st2 x' f', lookE 6 env' = some x' → IsRow st2 x' f' 3 1 ((l ++ posZ k m n).map intC) → Ext st0 st2 → (x' = .nils ∨ st0.next ≤ f') → after (CS sum) 41 none ks Q .normal env' st2) →
    WK (CS sum) 41 none c120z (.block 0 :: ks) env st Q := by
  intro m
  induction m with
  | zero =>
    intro n hn hm l x f st hl hrow hext hf env h0 h1 h6 hfin
    obtain rfl : n = 0 := by simpa using hn
    refine WK.sub [(0, .int .i64 ((0 : Nat) : Int)), (1, .int .i64 (k : Int)), (6, x)] ?_ ?_
    · intro t v ht
      simp only [lookE_cons] at ht
      by_cases e0 : t = 0
      · rw [if_pos e0] at ht; subst e0; rw [h0]; exact ht
      rw [if_neg e0] at ht
      by_cases e1 : t = 1
      · rw [if_pos e1] at ht; subst e1; rw [h1]; exact ht
      rw [if_neg e1] at ht
      by_cases e6 : t = 6
      · rw [if_pos e6] at ht; subst e6; rw [h6]; exact ht
      rw [if_neg e6] at ht
      cases ht
    unfold c120z
    refine WK.loop ?_
    refine WK.seq ?_
    refine WK.seq ?_
    refine WK.region ?_
    refine WR.op rfl rfl rfl rfl ?_
    refine WR.op rfl rfl rfl rfl ?_
    refine WR.op rfl rfl (r_geq rfl rfl (q := false) (by rw [iltb_eq]; simp; omega)) rfl ?_
    refine WR.nil ?_
    refine after.seq ?_
    refine WK.cond rfl (fun h => (by cases h)) (fun _ => ?_)
    refine WK.exit ?_
    refine after.seq_exit ?_
    refine after.seq_exit ?_
    refine after.exit ?_
    exact hfin _ st x f rfl (by rw [show posZ k 0 0 = [] from rfl, List.append_nil]; exact hrow) hext hf
  | succ m ih =>
    intro n hn hm l x f st hl hrow hext hf env h0 h1 h6 hfin
    have hn40 : n < 9223372036854775808 := Nat.lt_of_lt_of_le hn (Nat.le_trans (Nat.pow_le_pow_right (by decide) hm) (by decide))
    have hk0 : k ≠ 0 := by omega
    have hp : 2 ^ (m + 1) = 2 ^ m * 2 := Nat.pow_succ 2 m
    rw [hp] at hn
    have hlm : (l.map intC).length = l.length := List.length_map _
    refine WK.sub [(0, .int .i64 (n : Int)), (1, .int .i64 (k : Int)), (6, x)] ?_ ?_
    · intro t v ht
      simp only [lookE_cons] at ht
      by_cases e0 : t = 0
      · rw [if_pos e0] at ht; subst e0; rw [h0]; exact ht
      rw [if_neg e0] at ht
      by_cases e1 : t = 1
      · rw [if_pos e1] at ht; subst e1; rw [h1]; exact ht
      rw [if_neg e1] at ht
      by_cases e6 : t = 6
      · rw [if_pos e6] at ht; subst e6; rw [h6]; exact ht
      rw [if_neg e6] at ht
      cases ht
    unfold c120z
    refine WK.loop ?_
    refine WK.seq ?_
    refine WK.seq ?_
    refine WK.region ?_
    refine WR.op rfl rfl rfl rfl ?_
    refine WR.op rfl rfl rfl rfl ?_
    cases h16 : (!iltb (n : Int) (k : Int))
    · refine WR.op rfl rfl (r_geq rfl rfl h16) rfl ?_
      refine WR.nil ?_
      refine after.seq ?_
      refine WK.cond rfl (fun h => (by cases h)) (fun _ => ?_)
      refine WK.exit ?_
      refine after.seq_exit ?_
      refine after.seq_exit ?_
      refine after.exit ?_
      exact hfin _ st x f rfl (by rw [posZ, if_neg (by rw [iltb_eq] at h16; simp at h16; omega), List.append_nil]; exact hrow) hext hf
    · refine WR.op rfl rfl (r_geq rfl rfl h16) rfl ?_
      refine WR.nil ?_
      refine after.seq ?_
      refine WK.cond rfl (fun _ => ?_) (fun h => (by cases h))
      refine WK.skip ?_
      refine after.seq ?_
      refine WK.seq ?_
      refine WK.block ?_
      refine WK.region ?_
      have hkn : k ≤ n := by rw [iltb_eq] at h16; simp at h16; omega
      have hdk : n / k < 2 ^ m := by
        have h1 : n / k ≤ n / 2 := Nat.div_le_div_left hk (by decide)
        omega
      have hdk2 : n / k ≤ n := Nat.div_le_self _ _
      refine WR.op rfl rfl rfl rfl ?_
      refine WR.op rfl rfl rfl rfl ?_
      refine WR.op rfl rfl (r_arith ⟨by decide, by decide⟩ rfl rfl (quo_nat hk0 hn40)) rfl ?_
      refine WR.op rfl rfl rfl rfl ?_
      refine WR.nil ?_
      refine after.block ?_
      refine after.seq ?_
      refine WK.region ?_
      refine WR.op rfl rfl rfl rfl ?_
      refine WR.op rfl rfl rfl rfl ?_
      refine WR.op rfl rfl rfl rfl ?_
      refine WR.op rfl rfl (r_arith ⟨by decide, by decide⟩ rfl rfl (rem_nat hk0 (by omega))) rfl ?_
      refine WR.app1 (st0 := st0) un55 sz3 by3 rfl rfl ze3 rfl rfl rfl rfl rfl rfl hrow hext hf (by omega) ?_
      intro x2 st2 f2 hrow2 hext2 hf2 _ _ _
      refine WR.op rfl rfl rfl rfl ?_
      refine WR.nil ?_
      refine after.seq ?_
      refine ih (n / k) hdk (by omega) (l ++ [n / k % k]) x2 f2 st2 (by rw [List.length_append]; simp; omega) (by rw [List.map_append]; exact hrow2) hext2 (.inr hf2) _ rfl rfl rfl fun env' st3 x' f' e1 e2 e3 e4 => hfin env' st3 x' f' e1 ?_ e3 e4
      rw [posZ, if_pos hkn]
      rw [List.append_assoc] at e2
      exact e2
theorem posA_loop {k : Nat} (hk : 2 ≤ k) (hk2 : k < 1000000) {st0 : St} {ks : List Kont} {Q : Post3} : ∀ (m n : Nat), n < 2 ^ m → m ≤ 40 → ∀ (l : List Nat) (x : AV) (f : Nat) (st : St), l.length + m ≤ 1000000 → IsRow st x f 3 1 (l.map intC) → Ext st0 st → (x = .nils ∨ st0.next ≤ f) → ∀ env, lookE 0 env = some (.int .i64 (n : Int)) → lookE 1 env = some (.int .i64 (k : Int)) → lookE 6 env = some x →
    (∀ env' st2 x' f', lookE 6 env' = some x' → IsRow st2 x' f' 3 1 ((l ++ posA k m n).map intC) → Ext st0 st2 → (x' = .nils ∨ st0.next ≤ f') → after (CS sum) 41 none ks Q .normal env' st2) →
    WK (CS sum) 41 none c120a (.block 2 :: ks) env st Q := by
  intro m
  induction m with
  | zero =>
    intro n hn hm l x f st hl hrow hext hf env h0 h1 h6 hfin
    obtain rfl : n = 0 := by simpa using hn
    refine WK.sub [(0, .int .i64 ((0 : Nat) : Int)), (1, .int .i64 (k : Int)), (6, x)] ?_ ?_
    · intro t v ht
      simp only [lookE_cons] at ht
      by_cases e0 : t = 0
      · rw [if_pos e0] at ht; subst e0; rw [h0]; exact ht
      rw [if_neg e0] at ht
      by_cases e1 : t = 1
      · rw [if_pos e1] at ht; subst e1; rw [h1]; exact ht
      rw [if_neg e1] at ht
      by_cases e6 : t = 6
      · rw [if_pos e6] at ht; subst e6; rw [h6]; exact ht
      rw [if_neg e6] at ht
      cases ht
    unfold c120a
    refine WK.loop ?_
    refine WK.seq ?_
    refine WK.seq ?_
    refine WK.region ?_
    refine WR.op rfl rfl rfl rfl ?_
    refine WR.op rfl rfl (r_gtr rfl rfl (q := false) rfl) rfl ?_
    refine WR.nil ?_
    refine after.seq ?_
    refine WK.cond rfl (fun h => (by cases h)) (fun _ => ?_)
    refine WK.exit ?_
    refine after.seq_exit ?_
    refine after.seq_exit ?_
    refine after.exit ?_
    exact hfin _ st x f rfl (by rw [show posA k 0 0 = [] from rfl, List.append_nil]; exact hrow) hext hf
  | succ m ih =>
    intro n hn hm l x f st hl hrow hext hf env h0 h1 h6 hfin
    have hn40 : n < 9223372036854775808 := Nat.lt_of_lt_of_le hn (Nat.le_trans (Nat.pow_le_pow_right (by decide) hm) (by decide))
    have hk0 : k ≠ 0 := by omega
    have hp : 2 ^ (m + 1) = 2 ^ m * 2 := Nat.pow_succ 2 m
    rw [hp] at hn
    have hlm : (l.map intC).length = l.length := List.length_map _
    refine WK.sub [(0, .int .i64 (n : Int)), (1, .int .i64 (k : Int)), (6, x)] ?_ ?_
    · intro t v ht
      simp only [lookE_cons] at ht
      by_cases e0 : t = 0
      · rw [if_pos e0] at ht; subst e0; rw [h0]; exact ht
      rw [if_neg e0] at ht
      by_cases e1 : t = 1
      · rw [if_pos e1] at ht; subst e1; rw [h1]; exact ht
      rw [if_neg e1] at ht
      by_cases e6 : t = 6
      · rw [if_pos e6] at ht; subst e6; rw [h6]; exact ht
      rw [if_neg e6] at ht
      cases ht
    unfold c120a
    refine WK.loop ?_
    refine WK.seq ?_
    refine WK.seq ?_
    refine WK.region ?_
    refine WR.op rfl rfl rfl rfl ?_
    cases h28 : iltb 0 (n : Int)
    · refine WR.op rfl rfl (r_gtr rfl rfl h28) rfl ?_
      refine WR.nil ?_
      refine after.seq ?_
      refine WK.cond rfl (fun h => (by cases h)) (fun _ => ?_)
      refine WK.exit ?_
      refine after.seq_exit ?_
      refine after.seq_exit ?_
      refine after.exit ?_
      exact hfin _ st x f rfl (by rw [posA, if_neg (by rw [iltb_eq] at h28; simp at h28; omega), List.append_nil]; exact hrow) hext hf
    · refine WR.op rfl rfl (r_gtr rfl rfl h28) rfl ?_
      refine WR.nil ?_
      refine after.seq ?_
      refine WK.cond rfl (fun _ => ?_) (fun h => (by cases h))
      refine WK.skip ?_
      refine after.seq ?_
      refine WK.seq ?_
      refine WK.block ?_
      refine WK.region ?_
      have hkn : 0 < n := by rw [iltb_eq] at h28; simp at h28; omega
      have hdk : (n - 1) / k < 2 ^ m := by
        have h1 : (n - 1) / k ≤ (n - 1) / 2 := Nat.div_le_div_left hk (by decide)
        omega
      have hdk2 : (n - 1) / k ≤ n - 1 := Nat.div_le_self _ _
      refine WR.op rfl rfl rfl rfl ?_
      refine WR.op rfl rfl rfl rfl ?_
      refine WR.op rfl rfl (r_arith ⟨by decide, by decide⟩ rfl rfl (sub_nat (b := 1) (by omega) hn40)) rfl ?_
      refine WR.op rfl rfl rfl rfl ?_
      refine WR.op rfl rfl (r_arith ⟨by decide, by decide⟩ rfl rfl (rem_nat hk0 (by omega))) rfl ?_
      refine WR.app1 (st0 := st0) un55 sz3 by3 rfl rfl ze3 rfl rfl rfl rfl rfl rfl hrow hext hf (by omega) ?_
      intro x2 st2 f2 hrow2 hext2 hf2 _ _ _
      refine WR.op rfl rfl rfl rfl ?_
      refine WR.nil ?_
      refine after.block ?_
      refine after.seq ?_
      refine WK.region ?_
      refine WR.op rfl rfl rfl rfl ?_
      refine WR.op rfl rfl (r_arith ⟨by decide, by decide⟩ rfl rfl (sub_nat (b := 1) (by omega) hn40)) rfl ?_
      refine WR.op rfl rfl rfl rfl ?_
      refine WR.op rfl rfl (r_arith ⟨by decide, by decide⟩ rfl rfl (quo_nat hk0 (by omega))) rfl ?_
      refine WR.op rfl rfl rfl rfl ?_
      refine WR.nil ?_
      refine after.seq ?_
      refine ih ((n - 1) / k) hdk (by omega) (l ++ [(n - 1) % k]) x2 f2 st2 (by rw [List.length_append]; simp; omega) (by rw [List.map_append]; exact hrow2) hext2 (.inr hf2) _ rfl rfl rfl fun env' st3 x' f' e1 e2 e3 e4 => hfin env' st3 x' f' e1 ?_ e3 e4
      rw [posA, if_pos hkn]
      rw [List.append_assoc] at e2
      exact e2
theorem positional_ok (hs : ∀ xs st, sum 120 xs st = none) {k : Nat} (hk : 2 ≤ k) (hk2 : k < 1000000) (zero : Bool) (n : Nat) (hn : n < 2 ^ 40) (st : St) : CallW (CS sum) 120 [.int .i64 (n : Int), .int .i64 (k : Int), .bool zero] st fun v st' => (∃ f', IsRow st' v f' 3 1 ((digs zero k n).map intC) ∧ (v = .nils ∨ st.next ≤ f')) ∧ Ext st st' := by
  have hk0 : k ≠ 0 := by omega
  have hrow : IsRow st .nils 0 3 1 [] := .inl ⟨rfl, rfl⟩
  have hext := Ext.refl st
  have hf : AV.nils = .nils ∨ st.next ≤ 0 := .inl rfl
  refine CallW.enter (hs _ _) Tryz.func120 body120 c120_of rfl ?_
  rw [nt120]
  unfold c120
  refine WK.seq ?_
  refine WK.region ?_
  refine WR.op rfl rfl rfl rfl ?_
  refine WR.nil ?_
  refine after.seq ?_
  refine WK.seq ?_
  refine WK.seq ?_
  refine WK.region ?_
  refine WR.op rfl rfl rfl rfl ?_
  refine WR.nil ?_
  refine after.seq ?_
  refine WK.cond rfl (fun hc7_1 => ?_) (fun hc7_1 => ?_)
  · refine WK.seq ?_
    refine WK.seq ?_
    refine WK.region ?_
    refine WR.op rfl rfl rfl rfl ?_
    refine WR.op rfl rfl rfl rfl ?_
    refine WR.op rfl rfl rfl rfl ?_
    refine WR.op rfl rfl (r_arith ⟨by decide, by decide⟩ rfl rfl (rem_nat hk0 (by omega))) rfl ?_
    refine WR.app1 (st0 := st) un55 sz3 by3 rfl rfl ze3 rfl rfl rfl rfl rfl rfl hrow hext hf (by simp) ?_
    intro x2 st2 f2 hrow2 hext2 hf2 _ _ _
    refine WR.op rfl rfl rfl rfl ?_
    refine WR.nil ?_
    refine after.seq ?_
    refine WK.block ?_
    refine posZ_loop hk hk2 40 n hn (Nat.le_refl _) [n % k] x2 f2 st2 (by simp) hrow2 hext2 (.inr hf2) _ rfl rfl rfl fun env3 st3 x3 f3 e1 e2 e3 e4 => ?_
    refine after.seq ?_
    refine WK.seq ?_
    refine WK.region ?_
    refine WR.op rfl rfl (v := x3) (st' := st3) ?_ rfl ?_
    · simp only [aopR, evE, e1, bnd_some]
    refine WR.op rfl rfl rfl rfl ?_
    refine WR.nil ?_
    refine after.seq ?_
    refine WK.ret ?_
    refine after.seq_ret ?_
    exact ⟨ret_ne 0, ret_ne, [x3], (by rw [res120]; rfl), ⟨f3, by rw [digs, hc7_1]; exact e2, e4⟩, e3⟩
  · refine WK.skip ?_
    refine after.seq ?_
    refine WK.seq ?_
    refine WK.block ?_
    refine posA_loop hk hk2 40 n hn (Nat.le_refl _) [] .nils 0 st (by simp) hrow hext hf _ rfl rfl rfl fun env3 st3 x3 f3 e1 e2 e3 e4 => ?_
    refine after.seq ?_
    refine WK.seq ?_
    refine WK.region ?_
    refine WR.op rfl rfl (v := x3) (st' := st3) ?_ rfl ?_
    · simp only [aopR, evE, e1, bnd_some]
    refine WR.op rfl rfl rfl rfl ?_
    refine WR.nil ?_
    refine after.seq ?_
    refine WK.ret ?_
    exact ⟨ret_ne 0, ret_ne, [x3], (by rw [res120]; rfl), ⟨f3, by rw [digs, hc7_1]; exact e2, e4⟩, e3⟩
end Go.Proofs.Tz

namespace Go.Proofs.Tz
open Go Go.AE Go.RowKit Go.Proofs
set_option maxRecDepth 100000
variable {sum : FuncId → List AV → St → Option (AV × St)}
theorem fo106_0 : fieldOff Tryz.prog 106 0 = some 0 := by kernel_rfl
theorem fo106_1 : fieldOff Tryz.prog 106 1 = some 1 := by kernel_rfl
theorem agg104 : isAggT Tryz.prog 104 = some false := by kernel_rfl
theorem agg26 : isAggT Tryz.prog 26 = some false := by kernel_rfl
theorem sz104 : sizeT Tryz.prog 104 = some 1 := by kernel_rfl
theorem sz26 : sizeT Tryz.prog 26 = some 1 := by kernel_rfl
theorem sz5 : sizeT Tryz.prog 5 = some 1 := by kernel_rfl
theorem by5 : bytesT Tryz.prog 5 = some 1 := by kernel_rfl
theorem ze5 : zeroT Tryz.prog 5 = some (.int .u8 0) := by kernel_rfl
theorem ze106 : zeroT Tryz.prog 106 = some (.agg [.nilp, .nils]) := by kernel_rfl
theorem un26 : und Tryz.prog 26 = some (.slice 5) := by kernel_rfl
theorem un9 : und Tryz.prog 9 = some .string := by kernel_rfl
theorem un104 : und Tryz.prog 104 = some (.pointer 106) := by kernel_rfl
theorem un186 : und Tryz.prog 186 = some .unsafePointer := by kernel_rfl
theorem sz106 : sizeT Tryz.prog 106 = some 2 := by kernel_rfl
theorem lie106 : (Nat.beq (Tryz.prog.cellsOf 106) 2 && liesAt Tryz.prog Tryz.prog.depth 106 1 0 106 1) = true := by kernel_rfl
theorem eqg104 : Tryz.prog.eqGuardType Tryz.prog.depth 104 = false := by kernel_rfl
theorem cv1 {st : St} {b : Nat} {a x : AV} (h : st.heap.get b = some (boxO 106 (.agg [a, x]))) : AE.convert Tryz.prog st 104 186 (.ptr b 0) = some (.ptr b 0, st) := by
  simp only [AE.convert, un104, un186, sz106, bnd_some, box_cells h]
  rfl
theorem cv2 {st : St} {b : Nat} {a x : AV} (h : st.heap.get b = some (boxO 106 (.agg [a, x]))) : AE.convert Tryz.prog st 186 104 (.ptr b 0) = some (.ptr b 0, st) := by
  simp only [AE.convert, un104, un186, sz106, bnd_some, box_cells h]
  show cnd (Nat.beq (Tryz.prog.cellsOf 106) 2 && liesAt Tryz.prog Tryz.prog.depth 106 1 0 106 1) _ _ = _
  rw [lie106]
  rfl
theorem ptr_ne (b : Nat) : AE.binOp Tryz.prog .neq 104 (.ptr b 0) (.ptr b 0) = some (.bool false) := by
  have h : Nat.beq b b = true := beq_true.2 rfl
  have h2 : AE.aeq Tryz.prog 20 104 (.ptr b 0) (.ptr b 0) = some true := by
    show AE.aeqStep Tryz.prog (AE.aeq Tryz.prog 19) 104 (.ptr b 0) (.ptr b 0) = _
    simp only [AE.aeqStep, un104, sz106, bnd_some, h]
    rfl
  show cnd (Tryz.prog.eqGuardType Tryz.prog.depth 104) none ((AE.aeq Tryz.prog 20 104 (.ptr b 0) (.ptr b 0)).bnd fun b => some (AV.bool (!b))) = _
  rw [eqg104, h2]
  rfl
theorem r_bin {P : Program} {ρ : Rho} {st : St} {op : BinOp} {t u : TypeId} {x y : Operand} {v w r : AV} (hx : ρ x = some v) (hy : ρ y = some w) (h : AE.binOp P op t v w = some r) : aopR P ρ st (.binOp op t x y u) = some (r, st) := by
  simp only [aopR, hx, hy, bnd_some, h]
theorem r_conv {P : Program} {ρ : Rho} {st st' : St} {s d : TypeId} {x : Operand} {v r : AV} (hx : ρ x = some v) (h : AE.convert P st s d v = some (r, st')) : aopR P ρ st (.convert s d x) = some (r, st') := by
  simp only [aopR, hx, bnd_some, h]
/-- The state but for one block. -/
structure But (b : Nat) (st st' : St) : Prop where
  heap : ∀ k, k ≠ b → st'.heap.get k = st.heap.get k
  fams : st'.fams = st.fams
  nx : st'.next = st.next
theorem body117 : Tryz.f117.body = none := by kernel_rfl
theorem ext117 (st : St) (b : Nat) : AE.extern Tryz.prog Tryz.f117 (ext 117) [.ptr b 0] st = some (.ptr b 0, st) := by kernel_rfl

/-- (*strings.Builder).copyCheck -/
def c77 : SC := (.seq (.region [⟨.move (.tmp 0), some 2, none⟩, ⟨.nilCheck (.tmp 2), some 3, none⟩, ⟨.fieldAddr 106 (.tmp 3) 0, some 4, none⟩, ⟨.load 104 (.tmp 4), some 5, none⟩, ⟨.binOp .eql 104 (.tmp 5) (.const (.pointer none)) 104, some 6, none⟩])
  (.cond (.tmp 6) (.region [⟨.move (.tmp 0), some 7, none⟩, ⟨.move (.tmp 0), some 8, none⟩, ⟨.convert 104 186 (.tmp 8), some 9, none⟩, ⟨.call ⟨.value (.func 117), #[(.tmp 9)], #[186]⟩, some 10, none⟩, ⟨.convert 186 104 (.tmp 10), some 11, none⟩, ⟨.nilCheck (.tmp 7), some 12, none⟩, ⟨.fieldAddr 106 (.tmp 12) 0, some 13, none⟩, ⟨.store 104 (.tmp 13) (.tmp 11), none, none⟩]) (.seq (.region [⟨.move (.tmp 0), some 14, none⟩, ⟨.nilCheck (.tmp 14), some 15, none⟩, ⟨.fieldAddr 106 (.tmp 15) 0, some 16, none⟩, ⟨.load 104 (.tmp 16), some 17, none⟩, ⟨.move (.tmp 0), some 18, none⟩, ⟨.binOp .neq 104 (.tmp 17) (.tmp 18) 104, some 19, none⟩])
  (.cond (.tmp 19) .bad .skip))))
theorem c77_of : SC.of Tryz.f77.body.get! = c77 := by kernel_rfl
theorem body77 : Tryz.f77.body = some (Tryz.f77.body.get!) := by kernel_rfl
theorem nt77 : Tryz.f77.ntmps = 20 := by kernel_rfl
theorem res77 : Tryz.f77.results.toList = [] := by kernel_rfl
theorem copyCheck_ok (hs : ∀ xs st, sum 77 xs st = none) (hs1 : ∀ xs st, sum 117 xs st = none) {b : Nat} {a x : AV} {st : St} (h : st.heap.get b = some (boxO 106 (.agg [a, x]))) (ha : a = .nilp ∨ a = .ptr b 0) :
    CallW (CS sum) 77 [.ptr b 0] st fun _ st' => st'.heap.get b = some (boxO 106 (.agg [.ptr b 0, x])) ∧ But b st st' := by
  rcases ha with rfl | rfl
  · refine CallW.enter (hs _ _) Tryz.func77 body77 c77_of rfl ?_
    rw [nt77]
    unfold c77
    refine WK.seq ?_
    refine WK.region ?_
    refine WR.op rfl rfl rfl rfl ?_
    refine WR.op rfl rfl rfl rfl ?_
    refine WR.op rfl rfl (r_fa fo106_0 rfl) rfl ?_
    refine WR.op rfl rfl (r_ld agg104 rfl h rfl) rfl ?_
    refine WR.op rfl rfl rfl rfl ?_
    refine WR.nil ?_
    refine after.seq ?_
    refine WK.cond rfl (fun _ => ?_) (fun h => (by cases h))
    refine WK.region ?_
    refine WR.op rfl rfl rfl rfl ?_
    refine WR.op rfl rfl rfl rfl ?_
    refine WR.op rfl rfl (r_conv rfl (cv1 h)) rfl ?_
    refine WR.call (f := 117) («as» := [.ptr b 0]) rfl (.inl rfl) rfl rfl rfl rfl (CallW.extern (hs1 _ _) Tryz.func117 body117 (ext117 st b) ?_)
    refine WR.op rfl rfl (r_conv rfl (cv2 h)) rfl ?_
    refine WR.op rfl rfl rfl rfl ?_
    refine WR.op rfl rfl (r_fa fo106_0 rfl) rfl ?_
    refine WR.op0 rfl rfl (r_stF sz104 rfl rfl h (show 0 < 2 by decide) rfl) ?_
    refine WR.nil ?_
    exact ⟨normal_ne 0, normal_ne, [], (by rw [res77]; rfl), by rw [set_get, if_pos rfl]; rfl, fun k hk => by rw [set_get, if_neg hk], set_fams _ _ _, set_next _ _ _⟩
  · refine CallW.enter (hs _ _) Tryz.func77 body77 c77_of rfl ?_
    rw [nt77]
    unfold c77
    refine WK.seq ?_
    refine WK.region ?_
    refine WR.op rfl rfl rfl rfl ?_
    refine WR.op rfl rfl rfl rfl ?_
    refine WR.op rfl rfl (r_fa fo106_0 rfl) rfl ?_
    refine WR.op rfl rfl (r_ld agg104 rfl h rfl) rfl ?_
    refine WR.op rfl rfl rfl rfl ?_
    refine WR.nil ?_
    refine after.seq ?_
    refine WK.cond rfl (fun h => (by cases h)) (fun _ => ?_)
    refine WK.seq ?_
    refine WK.region ?_
    refine WR.op rfl rfl rfl rfl ?_
    refine WR.op rfl rfl rfl rfl ?_
    refine WR.op rfl rfl (r_fa fo106_0 rfl) rfl ?_
    refine WR.op rfl rfl (r_ld agg104 rfl h rfl) rfl ?_
    refine WR.op rfl rfl rfl rfl ?_
    refine WR.op rfl rfl (r_bin rfl rfl (ptr_ne b)) rfl ?_
    refine WR.nil ?_
    refine after.seq ?_
    refine WK.cond rfl (fun h => (by cases h)) (fun _ => ?_)
    refine WK.skip ?_
    exact ⟨normal_ne 0, normal_ne, [], (by rw [res77]; rfl), h, fun _ _ => rfl, rfl, rfl⟩
/-- (*strings.Builder).WriteString -/
def c42 : SC := (.seq (.region [⟨.assign (.const (.int .i64 0)), some 4, none⟩, ⟨.assign (.const .nilIface), some 5, none⟩])
  (.seq (.region [⟨.move (.tmp 0), some 6, none⟩, ⟨.call ⟨.value (.func 77), #[(.tmp 6)], #[104]⟩, some 7, none⟩])
  (.seq (.region [⟨.move (.tmp 0), some 8, none⟩, ⟨.move (.tmp 0), some 9, none⟩, ⟨.nilCheck (.tmp 9), some 10, none⟩, ⟨.fieldAddr 106 (.tmp 10) 1, some 11, none⟩, ⟨.load 26 (.tmp 11), some 12, none⟩, ⟨.move (.tmp 1), some 13, none⟩, ⟨.call ⟨.builtin .append, #[(.tmp 12), (.tmp 13)], #[26, 9]⟩, some 14, none⟩, ⟨.nilCheck (.tmp 8), some 15, none⟩, ⟨.fieldAddr 106 (.tmp 15) 1, some 16, none⟩, ⟨.store 26 (.tmp 16) (.tmp 14), none, none⟩])
  (.seq (.region [⟨.move (.tmp 1), some 17, none⟩, ⟨.call ⟨.builtin .len, #[(.tmp 17)], #[9]⟩, some 18, none⟩, ⟨.assign (.tmp 18), some 4, none⟩, ⟨.assign (.const .nilIface), some 5, none⟩])
  .ret))))
theorem c42_of : SC.of Tryz.f42.body.get! = c42 := by kernel_rfl
theorem body42 : Tryz.f42.body = some (Tryz.f42.body.get!) := by kernel_rfl
theorem nt42 : Tryz.f42.ntmps = 19 := by kernel_rfl
theorem res42 : Tryz.f42.results.toList = [.tmp 4, .tmp 5] := by kernel_rfl
/-- A text that is built, in block b: these signs stand in a row of family f. -/
def Bld (n0 : Nat) (st : St) (b f : Nat) (l : List UInt8) : Prop := b < st.next ∧ ∃ a x, st.heap.get b = some (boxO 106 (.agg [a, x])) ∧ (a = .nilp ∨ a = .ptr b 0) ∧ IsRow st x f 5 1 (byteEls l) ∧ (x = .nils ∨ (n0 ≤ f ∧ l ≠ [] ∧ ∃ F, st.fams.get f = some F ∧ F.mark < 2))
theorem row_but {st st' : St} {x : AV} {f e z b : Nat} {v : AV} {l : List (List AV)} (h : IsRow st x f e z l) {t : TypeId} (hb : st.heap.get b = some (boxO t v)) (k : But b st st') : IsRow st' x f e z l := by
  rcases h with h | ⟨m, h1, h2, h3, h4⟩
  · exact .inl h
  · obtain ⟨t', room, k1, k2⟩ := h4.blk
    obtain ⟨F, k3, k4⟩ := h4.fam
    have hm : m ≠ b := by
      rintro rfl
      rw [hb] at k1
      simp only [boxO, Option.some.injEq, AObj.cells.injEq, Blk.mk.injEq, reduceCtorEq, and_false] at k1
    exact .inr ⟨m, h1, by rw [k.nx]; exact h2, by rw [k.nx]; exact h3, ⟨⟨t', room, by rw [k.heap m hm]; exact k1, k2⟩, ⟨F, by rw [k.fams]; exact k3, k4⟩⟩⟩
theorem ext_but {st0 st st' : St} {b : Nat} {t : TypeId} {v : AV} (h : Ext st0 st) (hb : st0.next ≤ b) (hv : st'.heap.get b = some (boxO t v)) (k : But b st st') : Ext st0 st' := by
  refine ⟨by rw [k.nx]; exact h.nx, fun c hc => ?_, fun c hc => by rw [k.fams]; exact h.fams c hc, fun c o f hc hf hlt => ?_, fun c o f hc hf => ?_⟩
  · rw [k.heap c (by omega)]; exact h.heap c hc
  · by_cases e : c = b
    · subst e
      rw [hv] at hc
      obtain rfl := Option.some.inj hc
      cases hf
    · rw [k.heap c e] at hc
      exact h.nf c o f hc hf hlt
  · by_cases e : c = b
    · subst e
      rw [hv] at hc
      obtain rfl := Option.some.inj hc
      cases hf
    · rw [k.heap c e] at hc
      exact (h.bf c o f hc hf).imp id fun q => by rw [k.nx]; exact q
/-- What a step on a text that is built leaves as it was. -/
structure Kept (b f : Nat) (st st' : St) : Prop where
  nx : st.next ≤ st'.next
  heap : ∀ k, k ≠ b → k < st.next → st'.heap.get k = st.heap.get k
  fams : ∀ k, k ≠ f → k < st.next → st'.fams.get k = st.fams.get k
/-- The same, the signs few or none. -/
def BldG (n0 : Nat) (st : St) (b f : Nat) (l : List UInt8) : Prop := b < st.next ∧ ∃ a x, st.heap.get b = some (boxO 106 (.agg [a, x])) ∧ (a = .nilp ∨ a = .ptr b 0) ∧ IsRow st x f 5 1 (byteEls l) ∧ (x = .nils ∨ (n0 ≤ f ∧ ∃ F, st.fams.get f = some F ∧ F.mark < 2))
theorem Bld.g {n0 : Nat} {st : St} {b f : Nat} {l : List UInt8} (h : Bld n0 st b f l) : BldG n0 st b f l := by
  obtain ⟨h1, a, x, h2, h3, h4, h5⟩ := h
  exact ⟨h1, a, x, h2, h3, h4, h5.imp id fun h => ⟨h.1, h.2.2⟩⟩
theorem writeStringG_ok (hs : ∀ f ∈ [42, 77, 117], ∀ xs st, sum f xs st = none) {b f : Nat} {l s : List UInt8} {st0 st : St} (h : BldG st0.next st b f l) (h0 : Ext st0 st) (hb : st0.next ≤ b) (hne : s ≠ []) (hl : l.length + s.length ≤ 1000000) :
    CallW (CS sum) 42 [.ptr b 0, .str s] st fun _ st' => (∃ f', Bld st0.next st' b f' (l ++ s)) ∧ Ext st0 st' ∧ Kept b f st st' := by
  obtain ⟨hbl, a, x, h1, h2, h3, h4⟩ := h
  refine CallW.enter (hs 42 (by simp) _ _) Tryz.func42 body42 c42_of rfl ?_
  rw [nt42]
  unfold c42
  refine WK.seq ?_
  refine WK.region ?_
  refine WR.op rfl rfl rfl rfl ?_
  refine WR.op rfl rfl rfl rfl ?_
  refine WR.nil ?_
  refine after.seq ?_
  refine WK.seq ?_
  refine WK.region ?_
  refine WR.op rfl rfl rfl rfl ?_
  refine WR.call (f := 77) («as» := [.ptr b 0]) rfl (.inl rfl) rfl rfl rfl rfl ((copyCheck_ok (hs 77 (by simp)) (hs 117 (by simp)) h1 h2).mono ?_)
  rintro v1 st1 ⟨k1, k2⟩
  have h3' := row_but h3 h1 k2
  have h0' := ext_but h0 hb k1 k2
  obtain ⟨x2, st2, f2, e1, e2, e3, e4, e5, e6, e7, F2, e8, e9⟩ := appStr_row h3' h0' (h4.imp id fun h => h.1) hne hl
  have hmark : F2.mark < 2 := by
    rcases e9 with e9 | ⟨F, q1, q2, q3⟩
    · omega
    · rcases h4 with rfl | ⟨_, F', q4, q5⟩
      · exact absurd rfl q1
      · rw [k2.fams, q4] at q2
        obtain rfl := Option.some.inj q2
        omega
  have hb2 : st2.heap.get b = some (boxO 106 (.agg [.ptr b 0, x])) := by rw [e5 b (by rw [k2.nx]; exact hbl)]; exact k1
  have hx2p : x2.plain = true := by
    rcases e2 with ⟨rfl, _⟩ | ⟨m, rfl, _⟩ <;> rfl
  have hset : (st2.setObj b (boxO 106 (.agg [.ptr b 0, x2]))).heap.get b = some (boxO 106 (.agg [.ptr b 0, x2])) := by rw [set_get, if_pos rfl]
  have hbut : But b st2 (st2.setObj b (boxO 106 (.agg [.ptr b 0, x2]))) := ⟨fun k hk => by rw [set_get, if_neg hk], set_fams _ _ _, set_next _ _ _⟩
  refine WR.nil ?_
  refine after.seq ?_
  refine WK.seq ?_
  refine WK.region ?_
  refine WR.op rfl rfl rfl rfl ?_
  refine WR.op rfl rfl rfl rfl ?_
  refine WR.op rfl rfl rfl rfl ?_
  refine WR.op rfl rfl (r_fa fo106_1 rfl) rfl ?_
  refine WR.op rfl rfl (r_ld agg26 rfl k1 rfl) rfl ?_
  refine WR.op rfl rfl rfl rfl ?_
  refine WR.op rfl rfl ((r_appStr un26 un9 sz5 by5 ze5 rfl rfl).trans e1) rfl ?_
  refine WR.op rfl rfl rfl rfl ?_
  refine WR.op rfl rfl (r_fa fo106_1 rfl) rfl ?_
  refine WR.op0 rfl rfl (r_stF sz26 rfl rfl hb2 (show 1 < 2 by decide) hx2p) ?_
  refine WR.nil ?_
  refine after.seq ?_
  refine WK.seq ?_
  refine WK.region ?_
  refine WR.op rfl rfl rfl rfl ?_
  refine WR.op rfl rfl (r_len_str un9 rfl) rfl ?_
  refine WR.op rfl rfl rfl rfl ?_
  refine WR.op rfl rfl rfl rfl ?_
  refine WR.nil ?_
  refine after.seq ?_
  refine WK.ret ?_
  refine ⟨ret_ne 0, ret_ne, [.int .i64 (s.length : Int), .nili], (by rw [res42]; rfl), ⟨f2, ?_, .ptr b 0, x2, hset, .inr rfl, row_but e2 hb2 hbut, .inr ⟨e4, by simp [hne], F2, by rw [set_fams]; exact e8, hmark⟩⟩, ext_but e3 hb hset hbut, ?_, fun k hk hlt => ?_, fun k hk hlt => ?_⟩
  · have := k2.nx
    show b < (st2.setObj b _).next
    rw [set_next]; omega
  · show st.next ≤ (st2.setObj b _).next
    rw [set_next]
    have := k2.nx
    omega
  · show (st2.setObj b _).heap.get k = _
    rw [set_get, if_neg hk, e5 k (by rw [k2.nx]; exact hlt), k2.heap k hk]
  · show (st2.setObj b _).fams.get k = _
    rw [set_fams, e6 k hk (by rw [k2.nx]; exact hlt), k2.fams]
theorem writeString_ok (hs : ∀ f ∈ [42, 77, 117], ∀ xs st, sum f xs st = none) {b f : Nat} {l s : List UInt8} {st0 st : St} (h : Bld st0.next st b f l) (h0 : Ext st0 st) (hb : st0.next ≤ b) (hne : s ≠ []) (hl : l.length + s.length ≤ 1000000) :
    CallW (CS sum) 42 [.ptr b 0, .str s] st fun _ st' => (∃ f', Bld st0.next st' b f' (l ++ s)) ∧ Ext st0 st' ∧ Kept b f st st' := writeStringG_ok hs h.g h0 hb hne hl
/-- (*strings.Builder).String -/
def c43 : SC := (.seq (.region [⟨.assign (.const (.string ⟨#[]⟩)), some 2, none⟩])
  (.seq (.draw [⟨.move (.tmp 0), some 3, none⟩, ⟨.nilCheck (.tmp 3), some 4, none⟩, ⟨.fieldAddr 106 (.tmp 4) 1, some 5, none⟩, ⟨.load 26 (.tmp 5), some 6, none⟩, ⟨.call ⟨.builtin .unsafeSliceData, #[(.tmp 6)], #[26]⟩, some 7, none⟩, ⟨.move (.tmp 0), some 8, none⟩, ⟨.nilCheck (.tmp 8), some 9, none⟩, ⟨.fieldAddr 106 (.tmp 9) 1, some 10, none⟩, ⟨.load 26 (.tmp 10), some 11, none⟩, ⟨.call ⟨.builtin .len, #[(.tmp 11)], #[26]⟩, some 12, none⟩, ⟨.call ⟨.builtin .unsafeString, #[(.tmp 7), (.tmp 12)], #[152, 3]⟩, some 13, none⟩, ⟨.assign (.tmp 13), some 2, none⟩] [0, 1, 3, 7, 15, 0, 32, 96, 224, 480, 1023, 2047] true)
  .ret))
theorem c43_of : SC.of Tryz.f43.body.get! = c43 := by kernel_rfl
theorem body43 : Tryz.f43.body = some (Tryz.f43.body.get!) := by kernel_rfl
theorem nt43 : Tryz.f43.ntmps = 14 := by kernel_rfl
theorem res43 : Tryz.f43.results.toList = [.tmp 2] := by kernel_rfl
theorem un152 : und Tryz.prog 152 = some (.pointer 5) := by kernel_rfl
theorem id5 : (Nat.beq (Tryz.prog.underlyingId 5) (Tryz.prog.underlyingId 5) && Nat.beq (Tryz.prog.cellsOf 5) 1) = true := by kernel_rfl
theorem dep : Nat.ble 2 Tryz.prog.depth = true := by kernel_rfl
theorem Bld.string_nil (hs : ∀ xs st, sum 43 xs st = none) {b : Nat} {a : AV} {st0 st : St} (h0 : Ext st0 st) (h1 : st.heap.get b = some (boxO 106 (.agg [a, .nils]))) :
    CallW (CS sum) 43 [.ptr b 0] st fun v st' => v = .str [] ∧ Ext st0 st' := by
  have h1' : (resv 12 st).heap.get b = some (boxO 106 (.agg [a, .nils])) := h1

  refine CallW.enter (hs _ _) Tryz.func43 body43 c43_of rfl ?_
  rw [nt43]
  unfold c43
  refine WK.seq (WK.region ?_)
  refine WR.op rfl rfl rfl rfl ?_
  refine WR.nil ?_
  refine after.seq ?_
  refine WK.seq ?_
  refine WK.draw ?_
  refine WD.pure rfl (.inl rfl) rfl rfl rfl ?_
  refine WD.pure rfl (.inl rfl) rfl rfl rfl ?_
  refine WD.pure rfl (.inl rfl) rfl (r_fa fo106_1 rfl) rfl ?_
  refine WD.read rfl (.inl rfl) rfl (r_ld agg26 rfl h1' rfl) rfl ?_
  refine WD.read rfl (.inl rfl) rfl rfl rfl ?_
  refine WD.pure rfl (.inl rfl) rfl rfl rfl ?_
  refine WD.pure rfl (.inl rfl) rfl rfl rfl ?_
  refine WD.pure rfl (.inl rfl) rfl (r_fa fo106_1 rfl) rfl ?_
  refine WD.read rfl (.inl rfl) rfl (r_ld agg26 rfl h1' rfl) rfl ?_
  refine WD.read rfl (.inl rfl) rfl rfl rfl ?_
  refine WD.eff rfl (.inl rfl) rfl rfl (r_us0 rfl rfl) rfl ?_
  refine WD.pure rfl (.inl rfl) rfl rfl rfl ?_
  refine WD.nil ⟨.inr ?_, ?_⟩
  · intro e he
    simp only [List.mem_cons, List.not_mem_nil, or_false] at he
    rcases he with rfl | rfl | rfl | rfl
    all_goals refine ⟨rfl, fun S hS => ?_⟩
    all_goals obtain rfl := mem_need_one hS (by kernel_rfl) (by kernel_rfl)
    · rfl
    · exact r_ld agg26 rfl h1' rfl
    · rfl
    · exact r_ld agg26 rfl h1' rfl
  · refine after.seq ?_
    refine WK.ret ?_
    refine ⟨ret_ne 0, ret_ne, [.str []], (by rw [res43]; rfl), rfl, ?_⟩
    show Ext st0 (resv 12 st)
    exact h0.resv 12
theorem Bld.string_ok (hs : ∀ xs st, sum 43 xs st = none) {b f : Nat} {a x : AV} {l : List UInt8} {st0 st : St} (h0 : Ext st0 st) (h1 : st.heap.get b = some (boxO 106 (.agg [a, x]))) (hx : IsRow st x f 5 1 (byteEls l)) (hf : st0.next ≤ f) (hl : l ≠ []) (hl2 : l.length ≤ 1000000) (hF : ∃ F, st.fams.get f = some F ∧ F.mark < 2) :
    CallW (CS sum) 43 [.ptr b 0] st fun v st' => v = .str l ∧ Ext st0 st' := by
  have hbl : (byteEls l).length = l.length := byteEls_len l
  have hne : byteEls l ≠ [] := by
    intro h
    have := congrArg List.length h
    rw [hbl] at this
    cases l with
    | nil => exact hl rfl
    | cons c r => simp at this
  rcases hx with ⟨_, h⟩ | ⟨m, rfl, hm, hfn, hr⟩
  · exact absurd h hne
  obtain ⟨F, hF, hmk⟩ := hF
  have h1' : (resv 12 st).heap.get b = some (boxO 106 (.agg [a, .slc m 0 (byteEls l).length none])) := h1
  have hr' : RowAt (resv 12 st) m f 5 1 (byteEls l) := ⟨hr.blk, hr.fam⟩
  have hF' : (resv 12 st).fams.get f = some F := hF
  have hE : Els (resv 12 st) (.slc m 0 (byteEls l).length none) 1 (byteEls l) := IsRow.els (.inr ⟨m, rfl, Nat.lt_of_lt_of_le hm (Nat.le_add_right _ _), Nat.lt_of_lt_of_le hfn (Nat.le_add_right _ _), hr'⟩)
  have hln : ∀ {ρ : Rho} {x : Operand}, ρ x = some (.slc m 0 (byteEls l).length none) → aopR Tryz.prog ρ (resv 12 st) (.call ⟨.builtin .len, #[x], #[26]⟩) = some (.int .i64 (l.length : Int), resv 12 st) := by
    intro ρ x h
    rw [← hbl]
    exact r_lenE ⟨_, un26⟩ h hE

  refine CallW.enter (hs _ _) Tryz.func43 body43 c43_of rfl ?_
  rw [nt43]
  unfold c43
  refine WK.seq (WK.region ?_)
  refine WR.op rfl rfl rfl rfl ?_
  refine WR.nil ?_
  refine after.seq ?_
  refine WK.seq ?_
  refine WK.draw ?_
  refine WD.pure rfl (.inl rfl) rfl rfl rfl ?_
  refine WD.pure rfl (.inl rfl) rfl rfl rfl ?_
  refine WD.pure rfl (.inl rfl) rfl (r_fa fo106_1 rfl) rfl ?_
  refine WD.read rfl (.inl rfl) rfl (r_ld agg26 rfl h1' rfl) rfl ?_
  refine WD.read rfl (.inl rfl) rfl (r_sd rfl hr' hne) rfl ?_
  refine WD.pure rfl (.inl rfl) rfl rfl rfl ?_
  refine WD.pure rfl (.inl rfl) rfl rfl rfl ?_
  refine WD.pure rfl (.inl rfl) rfl (r_fa fo106_1 rfl) rfl ?_
  refine WD.read rfl (.inl rfl) rfl (r_ld agg26 rfl h1' rfl) rfl ?_
  refine WD.read rfl (.inl rfl) rfl (hln rfl) rfl ?_
  refine WD.eff rfl (.inl rfl) rfl rfl (r_us un152 id5 dep rfl rfl hr' hl (by omega) hF' hmk) rfl ?_
  refine WD.pure rfl (.inl rfl) rfl rfl rfl ?_
  refine WD.nil ⟨.inr ?_, ?_⟩
  · intro e he
    simp only [List.mem_cons, List.not_mem_nil, or_false] at he
    rcases he with rfl | rfl | rfl | rfl
    all_goals refine ⟨(by first | exact same_int _ _ | exact same_ptr _ _ | exact same_slc _ _ _ _), fun S hS => ?_⟩
    all_goals obtain rfl := mem_need_one hS (by kernel_rfl) (by kernel_rfl)
    · exact hln rfl
    · exact r_ld agg26 rfl h1' rfl
    · exact r_sd rfl hr' hne
    · exact r_ld agg26 rfl h1' rfl
  · refine after.seq ?_
    refine WK.ret ?_
    refine ⟨ret_ne 0, ret_ne, [.str l], (by rw [res43]; rfl), rfl, ?_⟩
    show Ext st0 ((resv 12 st).setFam f F.marked)
    exact (h0.resv 12).fam hf _

end Go.Proofs.Tz
