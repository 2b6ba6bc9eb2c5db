/- ContentCounters: the walk of the law's loop. -/
import Derived.Test.YtjnahfpnehmehaaGreatDoorCnt5
import Derived.Test.YtjnahfpnehmehaaGreatDoorReg17
import Derived.Test.YtjnahfpnehmehaaGreatDoorLetBase
namespace Go.Proofs.Tz
open Go Go.AE Go.RowKit Go.Proofs
set_option maxRecDepth 100000
variable {sum : FuncId → List AV → St → Option (AV × St)}
def nN : List UInt8 := [110]
def nM : List UInt8 := [109]
/-- The counters of the law. -/
def ctrsI : Nat → List Int → List Ctr
  | _, [] => []
  | i, n :: r => ⟨nN, (i : Int), n, false⟩ :: ⟨nM, (i : Int), 99, false⟩ :: ctrsI (i + 1) r
theorem ctrsI_app (n : Int) : ∀ (ns : List Int) (i : Nat), ctrsI i (ns ++ [n]) = ctrsI i ns ++ [⟨nN, ((i + ns.length : Nat) : Int), n, false⟩, ⟨nM, ((i + ns.length : Nat) : Int), 99, false⟩]
  | [], i => rfl
  | a :: ns, i => by
    rw [List.cons_append, ctrsI, ctrsI_app n ns (i + 1), ctrsI, List.length_cons, show i + 1 + ns.length = i + (ns.length + 1) from by omega]; rfl
theorem ctrsI_len : ∀ (ns : List Int) (i : Nat), (ctrsI i ns).length = 2 * ns.length
  | [], i => rfl
  | a :: ns, i => by rw [ctrsI, List.length_cons, List.length_cons, ctrsI_len ns (i + 1), List.length_cons]; omega
theorem valsN_ctrs : ∀ (ns : List Int) (i : Nat), valsN nN (ctrsI i ns) = ns
  | [], i => rfl
  | a :: ns, i => by
    have e1 : eqL nN nN = true := by kernel_rfl
    have e2 : ¬ eqL nM nN = true := by rw [show eqL nM nN = false from by kernel_rfl]; decide
    rw [ctrsI, valsN, valsN, if_pos e1, if_neg e2, valsN_ctrs ns (i + 1)]
theorem valN_ctrs (ns : List Int) : valN (ctrsI 0 ns) nN = ns.getLastD 0 := by
  rcases List.eq_nil_or_concat ns with rfl | ⟨p, n, rfl⟩
  · rfl
  · obtain ⟨c, hc⟩ : ∃ c, c = ctrsI 0 p := ⟨_, rfl⟩
    have hcs : ctrsI 0 (p.concat n) = c ++ [⟨nN, ((0 + p.length : Nat) : Int), n, false⟩, ⟨nM, ((0 + p.length : Nat) : Int), 99, false⟩] := by rw [List.concat_eq_append, ctrsI_app, hc]
    have e1 : eqL nN nN = true := by kernel_rfl
    have e2 : ¬ eqL nM nN = true := by rw [show eqL nM nN = false from by kernel_rfl]; decide
    have g1 : (ctrsI 0 (p.concat n)).getD c.length ⟨[], 0, 0, false⟩ = ⟨nN, ((0 + p.length : Nat) : Int), n, false⟩ := by
      rw [hcs, List.getD_eq_getElem?_getD, List.getElem?_append_right (Nat.le_refl _), Nat.sub_self]; rfl
    have g2 : (ctrsI 0 (p.concat n)).getD (c.length + 1) ⟨[], 0, 0, false⟩ = ⟨nM, ((0 + p.length : Nat) : Int), 99, false⟩ := by
      rw [hcs, List.getD_eq_getElem?_getD, List.getElem?_append_right (by omega), show c.length + 1 - c.length = 1 from by omega]; rfl
    have hl : (ctrsI 0 (p.concat n)).length = c.length + 1 + 1 := by rw [hcs, List.length_append]; rfl
    have hlast : lastN (ctrsI 0 (p.concat n)) nN (ctrsI 0 (p.concat n)).length = (c.length : Int) := by
      rw [hl, lastN, g2, if_neg e2, lastN, g1, if_pos e1]
    unfold valN
    rw [hlast, if_neg (by omega), Int.toNat_natCast, g1, List.concat_eq_append]
    simp
theorem joinS_app (sep t : List UInt8) : ∀ l : List (List UInt8), l ≠ [] → joinS sep (l ++ [t]) = (joinS sep l ++ sep) ++ t
  | [], h => absurd rfl h
  | a :: l, _ => by rw [List.cons_append, joinS, joinT_app, joinS]; simp [List.append_assoc]
theorem joinS_le (sep : List UInt8) : ∀ l : List (List UInt8), (∀ t ∈ l, t.length ≤ 1000) → (joinS sep l).length ≤ (1000 + sep.length) * l.length
  | [], _ => Nat.zero_le _
  | a :: l, h => by
    have h1 := h a (by simp)
    have h2 : ∀ m : List (List UInt8), (∀ t ∈ m, t.length ≤ 1000) → sumL m ≤ 1000 * m.length := by
      intro m
      induction m with
      | nil => intro _; exact Nat.zero_le _
      | cons b m ih =>
        intro hm
        have q1 := hm b (by simp)
        have q2 := ih fun t ht => hm t (by simp [ht])
        show b.length + sumL m ≤ 1000 * (m.length + 1)
        omega
    have h3 := h2 l fun t ht => h t (by simp [ht])
    have h4 : sep.length * l.length ≤ sep.length * (l.length + 1) := Nat.mul_le_mul_left _ (by omega)
    rw [joinS, List.length_append, joinT_len, List.length_cons, Nat.add_mul]
    omega
theorem lit2 (i n : Int) (id : Nat) : oBuildSlice Tryz.prog 51 2 [(0, .agg (Ctr.mk nN i n false).cells), (1, .agg (Ctr.mk nM i 99 false).cells)] id = some (.slc id 0 2 (some 2), .cells ⟨49, 4, setEls .nil 0 [(Ctr.mk nN i n false).cells, (Ctr.mk nM i 99 false).cells], 2, 2, .rw⟩) := by kernel_rfl
theorem load2 (i n : Int) : (Blk.mk 49 4 (setEls .nil 0 [(Ctr.mk nN i n false).cells, (Ctr.mk nM i 99 false).cells]) 2 2 .rw).load 0 (Nat.mul 2 4) = some ((Ctr.mk nN i n false).cells ++ (Ctr.mk nM i 99 false).cells) := by kernel_rfl
theorem bld49 (i n : Int) (nm : List UInt8) : build Tryz.prog 49 [(0, .str nm), (1, .int .i64 i), (2, .int .i64 n)] = some (.agg (Ctr.mk nm i n false).cells) := by kernel_rfl
theorem r_b49 {ρ : Rho} {st : St} {a b c : Operand} {i n : Int} {nm : List UInt8} (ha : ρ a = some (.str nm)) (hb : ρ b = some (.int .i64 i)) (hc : ρ c = some (.int .i64 n)) : aopR Tryz.prog ρ st (.build 49 #[(0, a), (1, b), (2, c)]) = some (.agg (Ctr.mk nm i n false).cells, st) := by
  simp only [aopR, evpsR, ha, hb, hc, bnd_some, bld49]
theorem by49 : bytesT Tryz.prog 49 = some 40 := by kernel_rfl
theorem app2C {nt : Nat} {rd : Option Nat} {env : Env} {st st0 : St} {Q : Post3} {ks : List Kont} {x1 x2 y : Operand} {d1 d2 : Tmp} {xv : AV} {f : Nat} {L : List (List AV)} {l : List SO} {i n : Int} (hx1 : evE env x1 = some (.agg (Ctr.mk nN i n false).cells)) (hx2 : evE env x2 = some (.agg (Ctr.mk nM i 99 false).cells)) (hd1 : Nat.blt d1 nt = true) (hd2 : Nat.blt d2 nt = true)
    (hy : evE ((d1, .slc st.next 0 2 (some 2)) :: env) y = some xv) (hrow : IsRow st xv f 49 4 L) (hext : Ext st0 st) (hf : xv = .nils ∨ st0.next ≤ f) (hl : L.length ≤ 1000000)
    (k : ∀ x' st' f', IsRow st' x' f' 49 4 (L ++ [(Ctr.mk nN i n false).cells, (Ctr.mk nM i 99 false).cells]) → Ext st0 st' → st0.next ≤ f' → WR (CS sum) nt rd l ks ((d2, x') :: (d1, .slc st.next 0 2 (some 2)) :: env) st' Q) :
    WR (CS sum) nt rd (⟨.buildSlice 51 2 #[(0, x1), (1, x2)], some d1, none⟩ :: ⟨.call ⟨.builtin .append, #[y, .tmp d1], #[51, 51]⟩, some d2, none⟩ :: l) ks env st Q := by
  obtain ⟨o, ho⟩ : ∃ o, o = AObj.cells ⟨49, 4, setEls .nil 0 [(Ctr.mk nN i n false).cells, (Ctr.mk nM i 99 false).cells], 2, 2, .rw⟩ := ⟨_, rfl⟩
  have hlit : aopR Tryz.prog (evE env) st (.buildSlice 51 2 #[(0, x1), (1, x2)]) = some (.slc st.next 0 2 (some 2), st.push o) := by
    simp only [aopR, evpsR, hx1, hx2, bnd_some, lit2, lay, ho]
  refine WR.op rfl rfl hlit hd1 ?_
  have hof : o.fam = none := by rw [ho]; rfl
  have hg0 : (st.push o).heap.get st.next = some o := by rw [push_get, if_pos rfl]
  have hnx : (st.push o).next = st.next + 1 := push_next _ _
  have hload : firstCells (st.push o) 4 2 (.slc st.next 0 2 (some 2)) = some ((Ctr.mk nN i n false).cells ++ (Ctr.mk nM i 99 false).cells) := by
    show AE.loadCells _ st.next 0 (Nat.mul 2 4) = _
    have hcel : cellsOf (st.push o) st.next = some ⟨49, 4, setEls .nil 0 [(Ctr.mk nN i n false).cells, (Ctr.mk nM i 99 false).cells], 2, 2, .rw⟩ := by
      unfold cellsOf
      rw [hg0, ho]; rfl
    unfold AE.loadCells
    rw [hcel]
    exact load2 i n
  obtain ⟨x', st', f', h1, h2, e3, e4, e5, e6, e7⟩ := IsRow.append (st0 := st0) (n := 2) (bytes := 40) (new := (Ctr.mk nN i n false).cells ++ (Ctr.mk nM i 99 false).cells) (es := [(Ctr.mk nN i n false).cells, (Ctr.mk nM i 99 false).cells]) (hrow.ext ((Ext.refl st).push o hof)) (hext.push o hof) hf (by decide) (by decide) rfl rfl (by decide) (by omega)
  have happ : aopR Tryz.prog (evE ((d1, .slc st.next 0 2 (some 2)) :: env)) (st.push o) (.call ⟨.builtin .append, #[y, .tmp d1], #[51, 51]⟩) = some (x', st') := by
    have hy2 : evE ((d1, .slc st.next 0 2 (some 2)) :: env) (.tmp d1) = some (.slc st.next 0 2 (some 2)) := by simp only [evE, lookE_cons, if_pos]
    have hg : (Nat.ble 1 4 && Nat.ble 1 40 && notInt (.slice 49) && Nat.beq (AV.agg [.str [], .int .i64 0, .int .i64 0, .bool false]).cells.length 4) = true := rfl
    simp only [aopR, evsR, hy, hy2, bnd_some, builtinOp, AE.append, un51, sz49, by49, lenOf, ze49, hg, cnd_true, hload, h1]
  exact WR.op rfl rfl happ hd2 (k x' st' f' h2 e3 e4)
/-- fleuron/fleuronlaw18.ContentCounters -/
def c5 : SC := (.seq (.region [⟨.assign (.const (.bool false)), some 6, none⟩])
  (.seq (.seq (.region [⟨.move (.tmp 0), some 14, none⟩, ⟨.call ⟨.builtin .len, #[(.tmp 14)], #[55]⟩, some 15, none⟩, ⟨.binOp .gtr 3 (.tmp 15) (.const (.int .i64 10)) 3, some 16, none⟩, ⟨.move (.tmp 16), some 17, none⟩, ⟨.move (.tmp 1), some 18, some (17, false)⟩, ⟨.call ⟨.builtin .len, #[(.tmp 18)], #[9]⟩, some 19, some (17, false)⟩, ⟨.binOp .gtr 3 (.tmp 19) (.const (.int .i64 10)) 3, some 20, some (17, false)⟩, ⟨.pick (.tmp 17) (.const (.bool true)) (.tmp 20), some 21, none⟩])
  (.cond (.tmp 21) (.seq (.region [⟨.call ⟨.value (.func 14), #[], #[]⟩, some 22, none⟩, ⟨.assign (.tmp 22), some 6, none⟩])
  .ret) .skip))
  (.seq (.region [⟨.call ⟨.value (.func 19), #[(.const (.slice none 0 0))], #[66]⟩, some 23, none⟩, ⟨.assign (.tmp 23), some 7, none⟩])
  (.seq (.seq (.region [⟨.move (.tmp 7), some 24, none⟩, ⟨.binOp .eql 36 (.tmp 24) (.const (.pointer none)) 36, some 25, none⟩])
  (.cond (.tmp 25) (.seq (.region [⟨.assign (.const (.bool false)), some 6, none⟩])
  .ret) .skip))
  (.seq (.region [⟨.buildSlice 31 4 #[(0, (.const (.string ⟨#[100, 101, 99, 105, 109, 97, 108]⟩))), (1, (.const (.string ⟨#[117, 112, 112, 101, 114, 45, 114, 111, 109, 97, 110]⟩))), (2, (.const (.string ⟨#[110, 111, 110, 101]⟩))), (3, (.const (.string ⟨#[108, 111, 119, 101, 114, 45, 97, 108, 112, 104, 97]⟩)))], some 26, none⟩, ⟨.move (.tmp 2), some 27, none⟩, ⟨.call ⟨.value (.func 22), #[(.tmp 27), (.const (.int .i64 4))], #[3, 3]⟩, some 28, none⟩, ⟨.indexAddr 31 (.tmp 26) (.tmp 28), some 29, none⟩, ⟨.load 9 (.tmp 29), some 30, none⟩, ⟨.assign (.tmp 30), some 8, none⟩])
  (.seq (.region [⟨.assign (.const (.slice none 0 0)), some 9, none⟩])
  (.seq (.region [⟨.move (.tmp 7), some 31, none⟩, ⟨.move (.tmp 8), some 32, none⟩, ⟨.call ⟨.value (.func 23), #[(.tmp 31), (.tmp 32), (.const (.int .i64 0))], #[36, 9, 3]⟩, some 33, none⟩, ⟨.assign (.const (.string ⟨#[]⟩)), some 10, none⟩, ⟨.assign (.tmp 33), some 11, none⟩])
  (.seq (.seq (.region [⟨.assign (.const (.int .i64 0)), some 12, none⟩])
  (.block 0 (.loop (.seq (.seq (.region [⟨.move (.tmp 12), some 34, none⟩, ⟨.move (.tmp 0), some 35, none⟩, ⟨.call ⟨.builtin .len, #[(.tmp 35)], #[55]⟩, some 36, none⟩, ⟨.binOp .lss 3 (.tmp 34) (.tmp 36) 3, some 37, none⟩])
  (.cond (.tmp 37) .skip (.exit 0)))
  (.seq (.block 1 (.seq (.region [⟨.move (.tmp 0), some 40, none⟩, ⟨.move (.tmp 12), some 41, none⟩, ⟨.indexAddr 55 (.tmp 40) (.tmp 41), some 42, none⟩, ⟨.load 3 (.tmp 42), some 43, none⟩, ⟨.call ⟨.value (.func 22), #[(.tmp 43), (.const (.int .i64 50))], #[3, 3]⟩, some 44, none⟩, ⟨.assign (.tmp 44), some 13, none⟩])
  (.seq (.region [⟨.move (.tmp 9), some 45, none⟩, ⟨.move (.tmp 12), some 46, none⟩, ⟨.move (.tmp 13), some 47, none⟩, ⟨.build 49 #[(0, (.const (.string ⟨#[110]⟩))), (1, (.tmp 46)), (2, (.tmp 47))], some 48, none⟩, ⟨.move (.tmp 12), some 49, none⟩, ⟨.build 49 #[(0, (.const (.string ⟨#[109]⟩))), (1, (.tmp 49)), (2, (.const (.int .i64 99)))], some 50, none⟩, ⟨.buildSlice 51 2 #[(0, (.tmp 48)), (1, (.tmp 50))], some 51, none⟩, ⟨.call ⟨.builtin .append, #[(.tmp 45), (.tmp 51)], #[51, 51]⟩, some 52, none⟩, ⟨.assign (.tmp 52), some 9, none⟩])
  (.seq (.region [⟨.move (.tmp 7), some 53, none⟩, ⟨.move (.tmp 8), some 54, none⟩, ⟨.move (.tmp 13), some 55, none⟩, ⟨.call ⟨.value (.func 23), #[(.tmp 53), (.tmp 54), (.tmp 55)], #[36, 9, 3]⟩, some 56, none⟩, ⟨.assign (.tmp 56), some 11, none⟩])
  (.seq (.seq (.region [⟨.move (.tmp 12), some 57, none⟩, ⟨.binOp .gtr 3 (.tmp 57) (.const (.int .i64 0)) 3, some 58, none⟩])
  (.cond (.tmp 58) (.region [⟨.move (.tmp 10), some 59, none⟩, ⟨.move (.tmp 1), some 60, none⟩, ⟨.binOp .add 9 (.tmp 59) (.tmp 60) 9, some 61, none⟩, ⟨.assign (.tmp 61), some 10, none⟩]) .skip))
  (.region [⟨.move (.tmp 10), some 62, none⟩, ⟨.move (.tmp 11), some 63, none⟩, ⟨.binOp .add 9 (.tmp 62) (.tmp 63) 9, some 64, none⟩, ⟨.assign (.tmp 64), some 10, none⟩]))))))
  (.region [⟨.move (.tmp 12), some 38, none⟩, ⟨.binOp .add 3 (.tmp 38) (.const (.int .i64 1)) 3, some 39, none⟩, ⟨.assign (.tmp 39), some 12, none⟩]))))))
  (.seq (.seq (.region [⟨.move (.tmp 0), some 65, none⟩, ⟨.call ⟨.builtin .len, #[(.tmp 65)], #[55]⟩, some 66, none⟩, ⟨.binOp .eql 3 (.tmp 66) (.const (.int .i64 0)) 3, some 67, none⟩])
  (.cond (.tmp 67) (.region [⟨.move (.tmp 11), some 68, none⟩, ⟨.assign (.tmp 68), some 10, none⟩]) .skip))
  (.seq (.seq (.region [⟨.move (.tmp 8), some 69, none⟩, ⟨.binOp .eql 9 (.tmp 69) (.const (.string ⟨#[110, 111, 110, 101]⟩)) 9, some 70, none⟩])
  (.cond (.tmp 70) (.region [⟨.assign (.const (.string ⟨#[]⟩)), some 10, none⟩, ⟨.assign (.const (.string ⟨#[]⟩)), some 11, none⟩]) .skip))
  (.seq (.region [⟨.move (.tmp 7), some 71, none⟩, ⟨.move (.tmp 9), some 72, none⟩, ⟨.move (.tmp 8), some 73, none⟩, ⟨.build 60 #[(0, (.const (.int .i64 3))), (1, (.const (.string ⟨#[110]⟩))), (3, (.tmp 73))], some 74, none⟩, ⟨.call ⟨.value (.func 24), #[(.tmp 71), (.tmp 72), (.tmp 74)], #[36, 51, 60]⟩, some 75, none⟩, ⟨.move (.tmp 11), some 76, none⟩, ⟨.binOp .eql 9 (.tmp 75) (.tmp 76) 9, some 77, none⟩, ⟨.move (.tmp 77), some 78, none⟩, ⟨.move (.tmp 7), some 79, some (78, true)⟩, ⟨.move (.tmp 9), some 80, some (78, true)⟩, ⟨.move (.tmp 1), some 81, some (78, true)⟩, ⟨.move (.tmp 8), some 82, some (78, true)⟩, ⟨.build 60 #[(0, (.const (.int .i64 4))), (1, (.const (.string ⟨#[110]⟩))), (2, (.tmp 81)), (3, (.tmp 82))], some 83, some (78, true)⟩, ⟨.call ⟨.value (.func 24), #[(.tmp 79), (.tmp 80), (.tmp 83)], #[36, 51, 60]⟩, some 84, some (78, true)⟩, ⟨.move (.tmp 10), some 85, some (78, true)⟩, ⟨.binOp .eql 9 (.tmp 84) (.tmp 85) 9, some 86, some (78, true)⟩, ⟨.pick (.tmp 78) (.tmp 86) (.const (.bool false)), some 87, none⟩, ⟨.move (.tmp 87), some 88, none⟩, ⟨.move (.tmp 7), some 89, some (88, true)⟩, ⟨.move (.tmp 9), some 90, some (88, true)⟩, ⟨.move (.tmp 1), some 91, some (88, true)⟩, ⟨.build 60 #[(0, (.const (.int .i64 1))), (1, (.tmp 91)), (3, (.const (.string ⟨#[110, 111, 110, 101]⟩)))], some 92, some (88, true)⟩, ⟨.call ⟨.value (.func 24), #[(.tmp 89), (.tmp 90), (.tmp 92)], #[36, 51, 60]⟩, some 93, some (88, true)⟩, ⟨.move (.tmp 1), some 94, some (88, true)⟩, ⟨.binOp .eql 9 (.tmp 93) (.tmp 94) 9, some 95, some (88, true)⟩, ⟨.pick (.tmp 88) (.tmp 95) (.const (.bool false)), some 96, none⟩, ⟨.move (.tmp 96), some 97, none⟩, ⟨.move (.tmp 7), some 98, some (97, true)⟩, ⟨.move (.tmp 9), some 99, some (97, true)⟩, ⟨.build 60 #[(0, (.const (.int .i64 5)))], some 100, some (97, true)⟩, ⟨.call ⟨.value (.func 24), #[(.tmp 98), (.tmp 99), (.tmp 100)], #[36, 51, 60]⟩, some 101, some (97, true)⟩, ⟨.binOp .eql 9 (.tmp 101) (.const (.string ⟨#[]⟩)) 9, some 102, some (97, true)⟩, ⟨.pick (.tmp 97) (.tmp 102) (.const (.bool false)), some 103, none⟩, ⟨.move (.tmp 103), some 104, none⟩, ⟨.call ⟨.value (.func 14), #[], #[]⟩, some 105, some (104, true)⟩, ⟨.pick (.tmp 104) (.tmp 105) (.const (.bool false)), some 106, none⟩, ⟨.assign (.tmp 106), some 6, none⟩])
  .ret)))))))))))
theorem c5_of : SC.of Tryz.f5.body.get! = c5 := by kernel_rfl
theorem body5 : Tryz.f5.body = some (Tryz.f5.body.get!) := by kernel_rfl
theorem nt5 : Tryz.f5.ntmps = 107 := by kernel_rfl
theorem res5 : Tryz.f5.results.toList = [.tmp 6] := by kernel_rfl
def c5loop : SC := (.loop (.seq (.seq (.region [⟨.move (.tmp 12), some 34, none⟩, ⟨.move (.tmp 0), some 35, none⟩, ⟨.call ⟨.builtin .len, #[(.tmp 35)], #[55]⟩, some 36, none⟩, ⟨.binOp .lss 3 (.tmp 34) (.tmp 36) 3, some 37, none⟩])
  (.cond (.tmp 37) .skip (.exit 0)))
  (.seq (.block 1 (.seq (.region [⟨.move (.tmp 0), some 40, none⟩, ⟨.move (.tmp 12), some 41, none⟩, ⟨.indexAddr 55 (.tmp 40) (.tmp 41), some 42, none⟩, ⟨.load 3 (.tmp 42), some 43, none⟩, ⟨.call ⟨.value (.func 22), #[(.tmp 43), (.const (.int .i64 50))], #[3, 3]⟩, some 44, none⟩, ⟨.assign (.tmp 44), some 13, none⟩])
  (.seq (.region [⟨.move (.tmp 9), some 45, none⟩, ⟨.move (.tmp 12), some 46, none⟩, ⟨.move (.tmp 13), some 47, none⟩, ⟨.build 49 #[(0, (.const (.string ⟨#[110]⟩))), (1, (.tmp 46)), (2, (.tmp 47))], some 48, none⟩, ⟨.move (.tmp 12), some 49, none⟩, ⟨.build 49 #[(0, (.const (.string ⟨#[109]⟩))), (1, (.tmp 49)), (2, (.const (.int .i64 99)))], some 50, none⟩, ⟨.buildSlice 51 2 #[(0, (.tmp 48)), (1, (.tmp 50))], some 51, none⟩, ⟨.call ⟨.builtin .append, #[(.tmp 45), (.tmp 51)], #[51, 51]⟩, some 52, none⟩, ⟨.assign (.tmp 52), some 9, none⟩])
  (.seq (.region [⟨.move (.tmp 7), some 53, none⟩, ⟨.move (.tmp 8), some 54, none⟩, ⟨.move (.tmp 13), some 55, none⟩, ⟨.call ⟨.value (.func 23), #[(.tmp 53), (.tmp 54), (.tmp 55)], #[36, 9, 3]⟩, some 56, none⟩, ⟨.assign (.tmp 56), some 11, none⟩])
  (.seq (.seq (.region [⟨.move (.tmp 12), some 57, none⟩, ⟨.binOp .gtr 3 (.tmp 57) (.const (.int .i64 0)) 3, some 58, none⟩])
  (.cond (.tmp 58) (.region [⟨.move (.tmp 10), some 59, none⟩, ⟨.move (.tmp 1), some 60, none⟩, ⟨.binOp .add 9 (.tmp 59) (.tmp 60) 9, some 61, none⟩, ⟨.assign (.tmp 61), some 10, none⟩]) .skip))
  (.region [⟨.move (.tmp 10), some 62, none⟩, ⟨.move (.tmp 11), some 63, none⟩, ⟨.binOp .add 9 (.tmp 62) (.tmp 63) 9, some 64, none⟩, ⟨.assign (.tmp 64), some 10, none⟩]))))))
  (.region [⟨.move (.tmp 12), some 38, none⟩, ⟨.binOp .add 3 (.tmp 38) (.const (.int .i64 1)) 3, some 39, none⟩, ⟨.assign (.tmp 39), some 12, none⟩]))))
theorem cnt_loop {x r : AV} {nm sep : List UInt8} {tx : Int → List UInt8} {l : List Int} {stA0 st1 : St} (hs : ∀ xs st, sum 22 xs st = none) (hsp : sep.length ≤ 10) (htx : ∀ n, 0 ≤ n → n < 50 → (tx n).length ≤ 1000) (hA : Ext stA0 st1) (hln : ∀ {ρ : Rho} {y : Operand} {st : St}, ρ y = some x → aopR Tryz.prog ρ st (.call ⟨.builtin .len, #[y], #[55]⟩) = some (.int .i64 (l.length : Int), st)) (hE : l ≠ [] → Els stA0 x 1 (l.map intZ)) (hlen : l.length ≤ 10)
    (hT : ∀ n, 0 ≤ n → n < 50 → ∀ st', Ext st1 st' → CallW (CS sum) 23 [r, .str nm, .int .i64 n] st' fun v st2 => v = .str (tx n) ∧ Ext st' st2) {ks : List Kont} {Q : Post3} : ∀ (q pre : List Int), pre ++ q = l → ∀ (y : AV) (f : Nat) (st : St), IsRow st y f 49 4 ((ctrsI 0 (pre.map (· % 50))).map Ctr.cells) → Ext st1 st → (y = .nils ∨ st1.next ≤ f) →
    ∀ env, lookE 0 env = some x → lookE 1 env = some (.str sep) → lookE 7 env = some r → lookE 8 env = some (.str nm) → lookE 9 env = some y → lookE 10 env = some (.str (joinS sep ((pre.map (· % 50)).map tx))) → lookE 11 env = some (.str (tx ((pre.map (· % 50)).getLastD 0))) → lookE 12 env = some (.int .i64 (pre.length : Int)) →
    (∀ env' st2 y' f', lookE 0 env' = some x → lookE 1 env' = some (.str sep) → lookE 7 env' = some r → lookE 8 env' = some (.str nm) → lookE 9 env' = some y' → lookE 10 env' = some (.str (joinS sep ((l.map (· % 50)).map tx))) → lookE 11 env' = some (.str (tx ((l.map (· % 50)).getLastD 0))) → IsRow st2 y' f' 49 4 ((ctrsI 0 (l.map (· % 50))).map Ctr.cells) → Ext st1 st2 → after (CS sum) 107 none ks Q .normal env' st2) →
    WK (CS sum) 107 none c5loop (.block 0 :: ks) env st Q := by
  intro q
  induction q with
  | nil =>
    intro pre hpre y f st hrow hext hf env h0 h1 h7 h8 h9 h10 h11 h12 hfin
    have hpl : pre = l := by rw [← hpre, List.append_nil]
    subst hpl
    refine WK.sub [(0, x), (1, .str sep), (7, r), (8, .str nm), (9, y), (10, .str (joinS sep ((pre.map (· % 50)).map tx))), (11, .str (tx ((pre.map (· % 50)).getLastD 0))), (12, .int .i64 (pre.length : Int))] ?_ ?_
    · intro t v ht
      simp only [lookE_cons] at ht
      by_cases e0 : t = 0
      · rw [if_pos e0] at ht; subst e0; rw [h0]; exact ht
      rw [if_neg e0] at ht
      by_cases e1 : t = 1
      · rw [if_pos e1] at ht; subst e1; rw [h1]; exact ht
      rw [if_neg e1] at ht
      by_cases e7 : t = 7
      · rw [if_pos e7] at ht; subst e7; rw [h7]; exact ht
      rw [if_neg e7] at ht
      by_cases e8 : t = 8
      · rw [if_pos e8] at ht; subst e8; rw [h8]; exact ht
      rw [if_neg e8] at ht
      by_cases e9 : t = 9
      · rw [if_pos e9] at ht; subst e9; rw [h9]; exact ht
      rw [if_neg e9] at ht
      by_cases e10 : t = 10
      · rw [if_pos e10] at ht; subst e10; rw [h10]; exact ht
      rw [if_neg e10] at ht
      by_cases e11 : t = 11
      · rw [if_pos e11] at ht; subst e11; rw [h11]; exact ht
      rw [if_neg e11] at ht
      by_cases e12 : t = 12
      · rw [if_pos e12] at ht; subst e12; rw [h12]; exact ht
      rw [if_neg e12] at ht
      cases ht
    unfold c5loop
    refine WK.loop ?_
    refine WK.seq ?_
    refine WK.seq ?_
    refine WK.region ?_
    refine WR.op rfl rfl rfl rfl ?_
    refine WR.op rfl rfl rfl rfl ?_
    refine WR.op rfl rfl (hln rfl) rfl ?_
    refine WR.op rfl rfl (r_lss rfl rfl (iltb_F (by omega))) rfl ?_
    refine WR.nil ?_
    refine after.seq ?_
    refine WK.cond rfl (fun h => (by cases h)) (fun _ => ?_)
    refine WK.exit ?_
    refine after.seq_exit ?_
    refine after.seq_exit ?_
    refine after.exit ?_
    exact hfin _ _ y f rfl rfl rfl rfl rfl rfl rfl hrow hext
  | cons n q ih =>
    intro pre hpre y f st hrow hext hf env h0 h1 h7 h8 h9 h10 h11 h12 hfin
    have hpl : l.length = pre.length + (q.length + 1) := by rw [← hpre]; simp
    have hml : (l.map intZ).length = l.length := List.length_map _
    have hl0 : l ≠ [] := by
      intro e
      rw [e] at hpl
      simp at hpl
    obtain ⟨mm, off, hia, hla⟩ := ((hE hl0).ext (hA.trans hext)).at (n := pre.length) un55 sz3 (by omega)
    have hget : (l.map intZ)[pre.length]? = some (intZ n) := by rw [List.getElem?_map, ← hpre]; simp
    have hr0 : 0 ≤ n % 50 := by omega
    have hr1 : n % 50 < 50 := by omega
    have hcl : (ctrsI 0 (pre.map (· % 50))).length = 2 * pre.length := by rw [ctrsI_len, List.length_map]
    have hca : ctrsI 0 ((pre ++ [n]).map (· % 50)) = ctrsI 0 (pre.map (· % 50)) ++ [⟨nN, (pre.length : Int), n % 50, false⟩, ⟨nM, (pre.length : Int), 99, false⟩] := by
      rw [List.map_append, List.map_singleton, ctrsI_app, List.length_map, Nat.zero_add]
    have hlast : ((pre ++ [n]).map (· % 50)).getLastD 0 = n % 50 := by
      rw [List.map_append, List.map_singleton]; simp
    have hjb : (joinS sep ((pre.map (· % 50)).map tx)).length ≤ 20000 := by
      have := joinS_le sep ((pre.map (· % 50)).map tx) (by
        intro t ht
        obtain ⟨a, ha, rfl⟩ := List.mem_map.1 ht
        obtain ⟨b, _, rfl⟩ := List.mem_map.1 ha
        exact htx _ (by omega) (by omega))
      rw [List.length_map, List.length_map] at this
      have h2 : (1000 + sep.length) * pre.length ≤ 1010 * pre.length := Nat.mul_le_mul_right _ (by omega)
      omega
    have htn := htx (n % 50) hr0 hr1
    have hja : ((pre ++ [n]).map (· % 50)).map tx = ((pre.map (· % 50)).map tx) ++ [tx (n % 50)] := by
      rw [List.map_append, List.map_append]; rfl
    cases hp : pre with
    | nil =>
      skip
      refine WK.sub [(0, x), (1, .str sep), (7, r), (8, .str nm), (9, y), (10, .str (joinS sep ((pre.map (· % 50)).map tx))), (11, .str (tx ((pre.map (· % 50)).getLastD 0))), (12, .int .i64 (pre.length : Int))] ?_ ?_
      · intro t v ht
        simp only [lookE_cons] at ht
        by_cases e0 : t = 0
        · rw [if_pos e0] at ht; subst e0; rw [h0]; exact ht
        rw [if_neg e0] at ht
        by_cases e1 : t = 1
        · rw [if_pos e1] at ht; subst e1; rw [h1]; exact ht
        rw [if_neg e1] at ht
        by_cases e7 : t = 7
        · rw [if_pos e7] at ht; subst e7; rw [h7]; exact ht
        rw [if_neg e7] at ht
        by_cases e8 : t = 8
        · rw [if_pos e8] at ht; subst e8; rw [h8]; exact ht
        rw [if_neg e8] at ht
        by_cases e9 : t = 9
        · rw [if_pos e9] at ht; subst e9; rw [h9]; exact ht
        rw [if_neg e9] at ht
        by_cases e10 : t = 10
        · rw [if_pos e10] at ht; subst e10; rw [h10]; exact ht
        rw [if_neg e10] at ht
        by_cases e11 : t = 11
        · rw [if_pos e11] at ht; subst e11; rw [h11]; exact ht
        rw [if_neg e11] at ht
        by_cases e12 : t = 12
        · rw [if_pos e12] at ht; subst e12; rw [h12]; exact ht
        rw [if_neg e12] at ht
        cases ht
      unfold c5loop
      refine WK.loop ?_
      refine WK.seq ?_
      refine WK.seq ?_
      refine WK.region ?_
      refine WR.op rfl rfl rfl rfl ?_
      refine WR.op rfl rfl rfl rfl ?_
      refine WR.op rfl rfl (hln rfl) rfl ?_
      refine WR.op rfl rfl (r_lss rfl rfl (iltb_T (by omega))) rfl ?_
      refine WR.nil ?_
      refine after.seq ?_
      refine WK.cond rfl (fun _ => ?_) (fun h => (by cases h))
      refine WK.skip ?_
      refine after.seq ?_
      refine WK.seq ?_
      refine WK.block ?_
      refine WK.seq ?_
      refine WK.region ?_
      refine WR.op rfl rfl rfl rfl ?_
      refine WR.op rfl rfl rfl rfl ?_
      refine WR.op rfl rfl (hia rfl rfl) rfl ?_
      refine WR.op rfl rfl ((hla _ hget rfl _ _ _ rfl).1 agg3 _ rfl) rfl ?_
      refine WR.call (f := 22) («as» := [.int .i64 n, .int .i64 50]) rfl (.inl rfl) rfl rfl rfl rfl ((round_ok hs (by decide) (by decide) st).mono ?_)
      rintro v1 _ ⟨rfl, rfl⟩
      refine WR.op rfl rfl rfl rfl ?_
      refine WR.nil ?_
      refine after.seq ?_
      refine WK.seq ?_
      refine WK.region ?_
      refine WR.op rfl rfl rfl rfl ?_
      refine WR.op rfl rfl rfl rfl ?_
      refine WR.op rfl rfl rfl rfl ?_
      refine WR.op rfl rfl (r_b49 rfl rfl rfl) rfl ?_
      refine WR.op rfl rfl rfl rfl ?_
      refine WR.op rfl rfl (r_b49 rfl rfl rfl) rfl ?_
      refine app2C (st0 := st1) rfl rfl rfl rfl rfl hrow hext hf (by rw [List.length_map]; omega) ?_
      intro y2 st3 f2 hrow2 hext2 hf2
      refine WR.op rfl rfl rfl rfl ?_
      refine WR.nil ?_
      refine after.seq ?_
      refine WK.seq ?_
      refine WK.region ?_
      refine WR.op rfl rfl rfl rfl ?_
      refine WR.op rfl rfl rfl rfl ?_
      refine WR.op rfl rfl rfl rfl ?_
      refine WR.call (f := 23) («as» := [r, .str nm, .int .i64 (n % 50)]) rfl (.inl rfl) rfl rfl rfl rfl ((hT (n % 50) hr0 hr1 st3 hext2).mono ?_)
      rintro v4 st4 ⟨rfl, k4⟩
      refine WR.op rfl rfl rfl rfl ?_
      refine WR.nil ?_
      refine after.seq ?_
      refine WK.seq ?_
      refine WK.seq ?_
      refine WK.region ?_
      refine WR.op rfl rfl rfl rfl ?_
      refine WR.op rfl rfl (r_gtr rfl rfl (iltb_F (by rw [hp]; decide))) rfl ?_
      refine WR.nil ?_
      refine after.seq ?_
      refine WK.cond rfl (fun h => (by cases h)) (fun _ => ?_)
      refine WK.skip ?_
      refine after.seq ?_
      refine WK.region ?_
      refine WR.op rfl rfl rfl rfl ?_
      refine WR.op rfl rfl rfl rfl ?_
      refine WR.op rfl rfl (r_cat rfl rfl (by omega)) rfl ?_
      refine WR.op rfl rfl rfl rfl ?_
      refine WR.nil ?_
      refine after.block ?_
      refine after.seq ?_
      refine WK.region ?_
      refine WR.op rfl rfl rfl rfl ?_
      refine WR.op rfl rfl (r_arith ⟨by decide, by decide⟩ rfl rfl (add_nat (b := 1) (by omega))) rfl ?_
      refine WR.op rfl rfl rfl rfl ?_
      refine WR.nil ?_
      refine after.seq ?_
      exact ih (pre ++ [n]) (by rw [← hpre]; simp) y2 f2 st4 (by rw [hca, List.map_append]; exact hrow2.ext k4) (hext2.trans k4) (.inr hf2) _ rfl rfl rfl rfl rfl (by rw [hja, hp]; show _ = some (AV.str (tx (n % 50) ++ [])); rw [List.append_nil]; rfl) (by rw [hlast]; rfl) (by rw [List.length_append]; rfl) hfin
    | cons a0 p0 =>
      skip
      refine WK.sub [(0, x), (1, .str sep), (7, r), (8, .str nm), (9, y), (10, .str (joinS sep ((pre.map (· % 50)).map tx))), (11, .str (tx ((pre.map (· % 50)).getLastD 0))), (12, .int .i64 (pre.length : Int))] ?_ ?_
      · intro t v ht
        simp only [lookE_cons] at ht
        by_cases e0 : t = 0
        · rw [if_pos e0] at ht; subst e0; rw [h0]; exact ht
        rw [if_neg e0] at ht
        by_cases e1 : t = 1
        · rw [if_pos e1] at ht; subst e1; rw [h1]; exact ht
        rw [if_neg e1] at ht
        by_cases e7 : t = 7
        · rw [if_pos e7] at ht; subst e7; rw [h7]; exact ht
        rw [if_neg e7] at ht
        by_cases e8 : t = 8
        · rw [if_pos e8] at ht; subst e8; rw [h8]; exact ht
        rw [if_neg e8] at ht
        by_cases e9 : t = 9
        · rw [if_pos e9] at ht; subst e9; rw [h9]; exact ht
        rw [if_neg e9] at ht
        by_cases e10 : t = 10
        · rw [if_pos e10] at ht; subst e10; rw [h10]; exact ht
        rw [if_neg e10] at ht
        by_cases e11 : t = 11
        · rw [if_pos e11] at ht; subst e11; rw [h11]; exact ht
        rw [if_neg e11] at ht
        by_cases e12 : t = 12
        · rw [if_pos e12] at ht; subst e12; rw [h12]; exact ht
        rw [if_neg e12] at ht
        cases ht
      unfold c5loop
      refine WK.loop ?_
      refine WK.seq ?_
      refine WK.seq ?_
      refine WK.region ?_
      refine WR.op rfl rfl rfl rfl ?_
      refine WR.op rfl rfl rfl rfl ?_
      refine WR.op rfl rfl (hln rfl) rfl ?_
      refine WR.op rfl rfl (r_lss rfl rfl (iltb_T (by omega))) rfl ?_
      refine WR.nil ?_
      refine after.seq ?_
      refine WK.cond rfl (fun _ => ?_) (fun h => (by cases h))
      refine WK.skip ?_
      refine after.seq ?_
      refine WK.seq ?_
      refine WK.block ?_
      refine WK.seq ?_
      refine WK.region ?_
      refine WR.op rfl rfl rfl rfl ?_
      refine WR.op rfl rfl rfl rfl ?_
      refine WR.op rfl rfl (hia rfl rfl) rfl ?_
      refine WR.op rfl rfl ((hla _ hget rfl _ _ _ rfl).1 agg3 _ rfl) rfl ?_
      refine WR.call (f := 22) («as» := [.int .i64 n, .int .i64 50]) rfl (.inl rfl) rfl rfl rfl rfl ((round_ok hs (by decide) (by decide) st).mono ?_)
      rintro v1 _ ⟨rfl, rfl⟩
      refine WR.op rfl rfl rfl rfl ?_
      refine WR.nil ?_
      refine after.seq ?_
      refine WK.seq ?_
      refine WK.region ?_
      refine WR.op rfl rfl rfl rfl ?_
      refine WR.op rfl rfl rfl rfl ?_
      refine WR.op rfl rfl rfl rfl ?_
      refine WR.op rfl rfl (r_b49 rfl rfl rfl) rfl ?_
      refine WR.op rfl rfl rfl rfl ?_
      refine WR.op rfl rfl (r_b49 rfl rfl rfl) rfl ?_
      refine app2C (st0 := st1) rfl rfl rfl rfl rfl hrow hext hf (by rw [List.length_map]; omega) ?_
      intro y2 st3 f2 hrow2 hext2 hf2
      refine WR.op rfl rfl rfl rfl ?_
      refine WR.nil ?_
      refine after.seq ?_
      refine WK.seq ?_
      refine WK.region ?_
      refine WR.op rfl rfl rfl rfl ?_
      refine WR.op rfl rfl rfl rfl ?_
      refine WR.op rfl rfl rfl rfl ?_
      refine WR.call (f := 23) («as» := [r, .str nm, .int .i64 (n % 50)]) rfl (.inl rfl) rfl rfl rfl rfl ((hT (n % 50) hr0 hr1 st3 hext2).mono ?_)
      rintro v4 st4 ⟨rfl, k4⟩
      refine WR.op rfl rfl rfl rfl ?_
      refine WR.nil ?_
      refine after.seq ?_
      refine WK.seq ?_
      refine WK.seq ?_
      refine WK.region ?_
      refine WR.op rfl rfl rfl rfl ?_
      refine WR.op rfl rfl (r_gtr rfl rfl (iltb_T (by rw [hp]; simp only [List.length_cons]; omega))) rfl ?_
      refine WR.nil ?_
      refine after.seq ?_
      refine WK.cond rfl (fun _ => ?_) (fun h => (by cases h))
      refine WK.region ?_
      refine WR.op rfl rfl rfl rfl ?_
      refine WR.op rfl rfl rfl rfl ?_
      refine WR.op rfl rfl (r_cat rfl rfl (by omega)) rfl ?_
      refine WR.op rfl rfl rfl rfl ?_
      refine WR.nil ?_
      refine after.seq ?_
      refine WK.region ?_
      refine WR.op rfl rfl rfl rfl ?_
      refine WR.op rfl rfl rfl rfl ?_
      refine WR.op rfl rfl (r_cat rfl rfl (by rw [List.length_append]; omega)) rfl ?_
      refine WR.op rfl rfl rfl rfl ?_
      refine WR.nil ?_
      refine after.block ?_
      refine after.seq ?_
      refine WK.region ?_
      refine WR.op rfl rfl rfl rfl ?_
      refine WR.op rfl rfl (r_arith ⟨by decide, by decide⟩ rfl rfl (add_nat (b := 1) (by omega))) rfl ?_
      refine WR.op rfl rfl rfl rfl ?_
      refine WR.nil ?_
      refine after.seq ?_
      exact ih (pre ++ [n]) (by rw [← hpre]; simp) y2 f2 st4 (by rw [hca, List.map_append]; exact hrow2.ext k4) (hext2.trans k4) (.inr hf2) _ rfl rfl rfl rfl rfl (by rw [hja, joinS_app _ _ _ (by rw [hp]; simp)]; rfl) (by rw [hlast]; rfl) (by rw [List.length_append]; rfl) hfin
end Go.Proofs.Tz
