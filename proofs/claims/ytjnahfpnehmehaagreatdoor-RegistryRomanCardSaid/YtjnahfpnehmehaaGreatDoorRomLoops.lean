/- RegistryRoman: the walk of the law. -/
import Derived.Test.YtjnahfpnehmehaaGreatDoorReg17
import Derived.Test.YtjnahfpnehmehaaGreatDoorLetLoops
namespace Go.Proofs.Tz
open Go Go.AE Go.RowKit Go.Proofs
set_option maxRecDepth 100000
variable {sum : FuncId → List AV → St → Option (AV × St)}
theorem els_lit (st : St) (e n : Nat) (l : List (List AV)) (h : n = l.length) : Els (st.push (.cells ⟨e, 1, setEls .nil 0 l, n, n, .rw⟩)) (.slc st.next 0 n (some n)) 1 l := by
  subst h
  have hs := push_self st (.cells ⟨e, 1, setEls .nil 0 l, l.length, l.length, .rw⟩)
  refine .inr ⟨st.next, _, _, rfl, hs, ?_, rfl, Nat.le_refl _, fun i hi => ?_, by rw [push_next]; omega, fun f hf => by cases hf⟩
  · unfold cellsOf
    rw [hs]; rfl
  · show (setEls .nil 0 l).get i = _
    rw [setEls_get, if_pos ⟨Nat.zero_le _, by omega⟩, Nat.sub_zero]
theorem r_blds {P : Program} {ρ : Rho} {st : St} {t : TypeId} {n : Nat} {ps : Array (Nat × Operand)} {vs : List (Nat × AV)} {o : AObj} (hv : evpsR ρ ps.toList = some vs) (h : ∀ id, oBuildSlice P t n vs id = some (.slc id 0 n (some n), o)) : aopR P ρ st (.buildSlice t n ps) = some (.slc st.next 0 n (some n), st.push o) := by
  simp only [aopR, hv, bnd_some, h, lay]
theorem add_int {a b : Int} (h1 : -4611686018427387904 ≤ a + b) (h2 : a + b ≤ 4611686018427387904) : intBin .add .i64 a b = some (.int .i64 (a + b)) := by
  have : wrapF .i64 (Int.add a b) = a + b := by
    rw [wrapF_eq]
    show IntKind.wrap .i64 (a + b) = _
    rw [IntWalk.i64_in _ (by omega)]
  simp only [intBin, this]
theorem addB' {a b c : Nat} (h : a + b = c) (hc : c < 256) : intBin .add .u8 (a : Int) (b : Int) = some (.int .u8 (c : Int)) := by
  rw [← h]; exact addB (by omega)
/-! The plain law -/
def tabC : List Nat := [105, 118, 120, 108, 99, 100, 109]
def tabW : List Nat := [1, 5, 10, 50, 100, 500, 1000]
/-- What a sign is worth, by the first k of them. -/
def wTo (c : Nat) : Nat → Nat
  | 0 => 0
  | k + 1 => if tabC.getD k 0 = c then tabW.getD k 0 else wTo c k
theorem wTo_le (c : Nat) : ∀ k, wTo c k ≤ 1000
  | 0 => by show 0 ≤ 1000; decide
  | k + 1 => by
    rw [wTo]
    split
    · by_cases h : k < 7
      · have : ∀ q, q < 7 → tabW.getD q 0 ≤ 1000 := by decide
        exact this k h
      · rw [List.getD_eq_getElem?_getD, List.getElem?_eq_none (by show 7 ≤ k; omega)]
        show 0 ≤ 1000
        decide
    · exact wTo_le c k
/-- A Roman number read from its end: what is left are the first j signs. -/
def rvTo (cs : List Nat) : Nat → Int → Nat → Int
  | 0, v, _ => v
  | j + 1, v, last => if wTo (cs.getD j 0) 7 < last then rvTo cs j (v - wTo (cs.getD j 0) 7) last else rvTo cs j (v + wTo (cs.getD j 0) 7) (wTo (cs.getD j 0) 7)
/-- fleuron/fleuronlaw11.RegistryRoman -/
def c7 : SC := (.seq (.region [⟨.assign (.const (.bool false)), some 4, none⟩])
  (.seq (.seq (.region [⟨.move (.tmp 0), some 14, none⟩, ⟨.binOp .lss 3 (.tmp 14) (.const (.int .i64 (-5000))) 3, some 15, none⟩, ⟨.move (.tmp 15), some 16, none⟩, ⟨.move (.tmp 0), some 17, some (16, false)⟩, ⟨.binOp .gtr 3 (.tmp 17) (.const (.int .i64 5000)) 3, some 18, some (16, false)⟩, ⟨.pick (.tmp 16) (.const (.bool true)) (.tmp 18), some 19, none⟩])
  (.cond (.tmp 19) (.seq (.region [⟨.call ⟨.value (.func 27), #[], #[]⟩, some 20, none⟩, ⟨.assign (.tmp 20), some 4, none⟩])
  .ret) .skip))
  (.seq (.region [⟨.call ⟨.value (.func 19), #[(.const (.slice none 0 0))], #[66]⟩, some 21, none⟩, ⟨.assign (.tmp 21), some 5, none⟩])
  (.seq (.seq (.region [⟨.move (.tmp 5), some 22, none⟩, ⟨.binOp .eql 36 (.tmp 22) (.const (.pointer none)) 36, some 23, none⟩])
  (.cond (.tmp 23) (.seq (.region [⟨.assign (.const (.bool false)), some 4, none⟩])
  .ret) .skip))
  (.seq (.region [⟨.assign (.const (.string ⟨#[108, 111, 119, 101, 114, 45, 114, 111, 109, 97, 110]⟩)), some 6, none⟩])
  (.seq (.seq (.region [⟨.move (.tmp 1), some 24, none⟩])
  (.cond (.tmp 24) (.region [⟨.assign (.const (.string ⟨#[85, 80, 80, 69, 82, 45, 114, 111, 109, 97, 110]⟩)), some 6, none⟩]) .skip))
  (.seq (.region [⟨.move (.tmp 5), some 25, none⟩, ⟨.move (.tmp 6), some 26, none⟩, ⟨.move (.tmp 0), some 27, none⟩, ⟨.call ⟨.value (.func 23), #[(.tmp 25), (.tmp 26), (.tmp 27)], #[36, 9, 3]⟩, some 28, none⟩, ⟨.assign (.tmp 28), some 7, none⟩])
  (.seq (.seq (.region [⟨.move (.tmp 0), some 29, none⟩, ⟨.binOp .lss 3 (.tmp 29) (.const (.int .i64 1)) 3, some 30, none⟩, ⟨.move (.tmp 30), some 31, none⟩, ⟨.move (.tmp 0), some 32, some (31, false)⟩, ⟨.binOp .gtr 3 (.tmp 32) (.const (.int .i64 3999)) 3, some 33, some (31, false)⟩, ⟨.pick (.tmp 31) (.const (.bool true)) (.tmp 33), some 34, none⟩])
  (.cond (.tmp 34) (.seq (.region [⟨.move (.tmp 7), some 35, none⟩, ⟨.move (.tmp 0), some 36, none⟩, ⟨.call ⟨.value (.func 25), #[(.tmp 36)], #[3]⟩, some 37, none⟩, ⟨.binOp .eql 9 (.tmp 35) (.tmp 37) 9, some 38, none⟩, ⟨.move (.tmp 38), some 39, none⟩, ⟨.call ⟨.value (.func 27), #[], #[]⟩, some 40, some (39, true)⟩, ⟨.pick (.tmp 39) (.tmp 40) (.const (.bool false)), some 41, none⟩, ⟨.assign (.tmp 41), some 4, none⟩])
  .ret) .skip))
  (.seq (.region [⟨.assign (.const (.int .i64 0)), some 8, none⟩, ⟨.assign (.const (.int .i64 0)), some 9, none⟩])
  (.seq (.seq (.region [⟨.move (.tmp 7), some 42, none⟩, ⟨.call ⟨.builtin .len, #[(.tmp 42)], #[9]⟩, some 43, none⟩, ⟨.binOp .sub 3 (.tmp 43) (.const (.int .i64 1)) 3, some 44, none⟩, ⟨.assign (.tmp 44), some 10, none⟩])
  (.block 0 (.loop (.seq (.seq (.region [⟨.move (.tmp 10), some 45, none⟩, ⟨.binOp .geq 3 (.tmp 45) (.const (.int .i64 0)) 3, some 46, none⟩])
  (.cond (.tmp 46) .skip (.exit 0)))
  (.seq (.block 1 (.seq (.region [⟨.move (.tmp 7), some 49, none⟩, ⟨.move (.tmp 10), some 50, none⟩, ⟨.index 9 (.tmp 49) (.tmp 50), some 51, none⟩, ⟨.assign (.tmp 51), some 11, none⟩])
  (.seq (.seq (.region [⟨.move (.tmp 1), some 52, none⟩])
  (.cond (.tmp 52) (.region [⟨.move (.tmp 11), some 53, none⟩, ⟨.binOp .add 5 (.tmp 53) (.const (.int .u8 32)) 5, some 54, none⟩, ⟨.assign (.tmp 54), some 11, none⟩]) .skip))
  (.seq (.region [⟨.assign (.const (.int .i64 0)), some 12, none⟩])
  (.seq (.seq (.region [⟨.assign (.const (.int .i64 0)), some 13, none⟩])
  (.block 2 (.loop (.seq (.seq (.region [⟨.move (.tmp 13), some 55, none⟩, ⟨.binOp .lss 3 (.tmp 55) (.const (.int .i64 7)) 3, some 56, none⟩])
  (.cond (.tmp 56) .skip (.exit 2)))
  (.seq (.block 3 (.seq (.region [⟨.move (.tmp 13), some 59, none⟩, ⟨.index 9 (.const (.string ⟨#[105, 118, 120, 108, 99, 100, 109]⟩)) (.tmp 59), some 60, none⟩, ⟨.move (.tmp 11), some 61, none⟩, ⟨.binOp .eql 5 (.tmp 60) (.tmp 61) 5, some 62, none⟩])
  (.cond (.tmp 62) (.region [⟨.buildSlice 55 7 #[(0, (.const (.int .i64 1))), (1, (.const (.int .i64 5))), (2, (.const (.int .i64 10))), (3, (.const (.int .i64 50))), (4, (.const (.int .i64 100))), (5, (.const (.int .i64 500))), (6, (.const (.int .i64 1000)))], some 63, none⟩, ⟨.move (.tmp 13), some 64, none⟩, ⟨.indexAddr 55 (.tmp 63) (.tmp 64), some 65, none⟩, ⟨.load 3 (.tmp 65), some 66, none⟩, ⟨.assign (.tmp 66), some 12, none⟩]) .skip)))
  (.region [⟨.move (.tmp 13), some 57, none⟩, ⟨.binOp .add 3 (.tmp 57) (.const (.int .i64 1)) 3, some 58, none⟩, ⟨.assign (.tmp 58), some 13, none⟩]))))))
  (.seq (.seq (.region [⟨.move (.tmp 12), some 67, none⟩, ⟨.binOp .eql 3 (.tmp 67) (.const (.int .i64 0)) 3, some 68, none⟩])
  (.cond (.tmp 68) (.seq (.region [⟨.assign (.const (.bool false)), some 4, none⟩])
  .ret) .skip))
  (.seq (.region [⟨.move (.tmp 12), some 69, none⟩, ⟨.move (.tmp 9), some 70, none⟩, ⟨.binOp .lss 3 (.tmp 69) (.tmp 70) 3, some 71, none⟩])
  (.cond (.tmp 71) (.region [⟨.move (.tmp 8), some 72, none⟩, ⟨.move (.tmp 12), some 73, none⟩, ⟨.binOp .sub 3 (.tmp 72) (.tmp 73) 3, some 74, none⟩, ⟨.assign (.tmp 74), some 8, none⟩]) (.seq (.region [⟨.move (.tmp 8), some 75, none⟩, ⟨.move (.tmp 12), some 76, none⟩, ⟨.binOp .add 3 (.tmp 75) (.tmp 76) 3, some 77, none⟩, ⟨.assign (.tmp 77), some 8, none⟩])
  (.region [⟨.move (.tmp 12), some 78, none⟩, ⟨.assign (.tmp 78), some 9, none⟩]))))))))))
  (.region [⟨.move (.tmp 10), some 47, none⟩, ⟨.binOp .sub 3 (.tmp 47) (.const (.int .i64 1)) 3, some 48, none⟩, ⟨.assign (.tmp 48), some 10, none⟩]))))))
  (.seq (.region [⟨.move (.tmp 8), some 79, none⟩, ⟨.move (.tmp 0), some 80, none⟩, ⟨.binOp .eql 3 (.tmp 79) (.tmp 80) 3, some 81, none⟩, ⟨.move (.tmp 81), some 82, none⟩, ⟨.call ⟨.value (.func 27), #[], #[]⟩, some 83, some (82, true)⟩, ⟨.pick (.tmp 82) (.tmp 83) (.const (.bool false)), some 84, none⟩, ⟨.assign (.tmp 84), some 4, none⟩])
  .ret)))))))))))
theorem c7_of : SC.of Tryz.f7.body.get! = c7 := by kernel_rfl
theorem body7 : Tryz.f7.body = some (Tryz.f7.body.get!) := by kernel_rfl
theorem nt7 : Tryz.f7.ntmps = 85 := by kernel_rfl
theorem res7 : Tryz.f7.results.toList = [.tmp 4] := by kernel_rfl
def c7in : SC := (.loop (.seq (.seq (.region [⟨.move (.tmp 13), some 55, none⟩, ⟨.binOp .lss 3 (.tmp 55) (.const (.int .i64 7)) 3, some 56, none⟩])
  (.cond (.tmp 56) .skip (.exit 2)))
  (.seq (.block 3 (.seq (.region [⟨.move (.tmp 13), some 59, none⟩, ⟨.index 9 (.const (.string ⟨#[105, 118, 120, 108, 99, 100, 109]⟩)) (.tmp 59), some 60, none⟩, ⟨.move (.tmp 11), some 61, none⟩, ⟨.binOp .eql 5 (.tmp 60) (.tmp 61) 5, some 62, none⟩])
  (.cond (.tmp 62) (.region [⟨.buildSlice 55 7 #[(0, (.const (.int .i64 1))), (1, (.const (.int .i64 5))), (2, (.const (.int .i64 10))), (3, (.const (.int .i64 50))), (4, (.const (.int .i64 100))), (5, (.const (.int .i64 500))), (6, (.const (.int .i64 1000)))], some 63, none⟩, ⟨.move (.tmp 13), some 64, none⟩, ⟨.indexAddr 55 (.tmp 63) (.tmp 64), some 65, none⟩, ⟨.load 3 (.tmp 65), some 66, none⟩, ⟨.assign (.tmp 66), some 12, none⟩]) .skip)))
  (.region [⟨.move (.tmp 13), some 57, none⟩, ⟨.binOp .add 3 (.tmp 57) (.const (.int .i64 1)) 3, some 58, none⟩, ⟨.assign (.tmp 58), some 13, none⟩]))))
def c7out : SC := (.loop (.seq (.seq (.region [⟨.move (.tmp 10), some 45, none⟩, ⟨.binOp .geq 3 (.tmp 45) (.const (.int .i64 0)) 3, some 46, none⟩])
  (.cond (.tmp 46) .skip (.exit 0)))
  (.seq (.block 1 (.seq (.region [⟨.move (.tmp 7), some 49, none⟩, ⟨.move (.tmp 10), some 50, none⟩, ⟨.index 9 (.tmp 49) (.tmp 50), some 51, none⟩, ⟨.assign (.tmp 51), some 11, none⟩])
  (.seq (.seq (.region [⟨.move (.tmp 1), some 52, none⟩])
  (.cond (.tmp 52) (.region [⟨.move (.tmp 11), some 53, none⟩, ⟨.binOp .add 5 (.tmp 53) (.const (.int .u8 32)) 5, some 54, none⟩, ⟨.assign (.tmp 54), some 11, none⟩]) .skip))
  (.seq (.region [⟨.assign (.const (.int .i64 0)), some 12, none⟩])
  (.seq (.seq (.region [⟨.assign (.const (.int .i64 0)), some 13, none⟩])
  (.block 2 (.loop (.seq (.seq (.region [⟨.move (.tmp 13), some 55, none⟩, ⟨.binOp .lss 3 (.tmp 55) (.const (.int .i64 7)) 3, some 56, none⟩])
  (.cond (.tmp 56) .skip (.exit 2)))
  (.seq (.block 3 (.seq (.region [⟨.move (.tmp 13), some 59, none⟩, ⟨.index 9 (.const (.string ⟨#[105, 118, 120, 108, 99, 100, 109]⟩)) (.tmp 59), some 60, none⟩, ⟨.move (.tmp 11), some 61, none⟩, ⟨.binOp .eql 5 (.tmp 60) (.tmp 61) 5, some 62, none⟩])
  (.cond (.tmp 62) (.region [⟨.buildSlice 55 7 #[(0, (.const (.int .i64 1))), (1, (.const (.int .i64 5))), (2, (.const (.int .i64 10))), (3, (.const (.int .i64 50))), (4, (.const (.int .i64 100))), (5, (.const (.int .i64 500))), (6, (.const (.int .i64 1000)))], some 63, none⟩, ⟨.move (.tmp 13), some 64, none⟩, ⟨.indexAddr 55 (.tmp 63) (.tmp 64), some 65, none⟩, ⟨.load 3 (.tmp 65), some 66, none⟩, ⟨.assign (.tmp 66), some 12, none⟩]) .skip)))
  (.region [⟨.move (.tmp 13), some 57, none⟩, ⟨.binOp .add 3 (.tmp 57) (.const (.int .i64 1)) 3, some 58, none⟩, ⟨.assign (.tmp 58), some 13, none⟩]))))))
  (.seq (.seq (.region [⟨.move (.tmp 12), some 67, none⟩, ⟨.binOp .eql 3 (.tmp 67) (.const (.int .i64 0)) 3, some 68, none⟩])
  (.cond (.tmp 68) (.seq (.region [⟨.assign (.const (.bool false)), some 4, none⟩])
  .ret) .skip))
  (.seq (.region [⟨.move (.tmp 12), some 69, none⟩, ⟨.move (.tmp 9), some 70, none⟩, ⟨.binOp .lss 3 (.tmp 69) (.tmp 70) 3, some 71, none⟩])
  (.cond (.tmp 71) (.region [⟨.move (.tmp 8), some 72, none⟩, ⟨.move (.tmp 12), some 73, none⟩, ⟨.binOp .sub 3 (.tmp 72) (.tmp 73) 3, some 74, none⟩, ⟨.assign (.tmp 74), some 8, none⟩]) (.seq (.region [⟨.move (.tmp 8), some 75, none⟩, ⟨.move (.tmp 12), some 76, none⟩, ⟨.binOp .add 3 (.tmp 75) (.tmp 76) 3, some 77, none⟩, ⟨.assign (.tmp 77), some 8, none⟩])
  (.region [⟨.move (.tmp 12), some 78, none⟩, ⟨.assign (.tmp 78), some 9, none⟩]))))))))))
  (.region [⟨.move (.tmp 10), some 47, none⟩, ⟨.binOp .sub 3 (.tmp 47) (.const (.int .i64 1)) 3, some 48, none⟩, ⟨.assign (.tmp 48), some 10, none⟩]))))
theorem lit7 : ∀ id, oBuildSlice Tryz.prog 55 7 [(0, .int .i64 1), (1, .int .i64 5), (2, .int .i64 10), (3, .int .i64 50), (4, .int .i64 100), (5, .int .i64 500), (6, .int .i64 1000)] id = some (.slc id 0 7 (some 7), (.cells ⟨3, 1, setEls .nil 0 (tabW.map intC), 7, 7, .rw⟩)) := fun id => by kernel_rfl
theorem tabC_get : ∀ k, k < 7 → ([105, 118, 120, 108, 99, 100, 109] : List UInt8)[k]? = some (UInt8.ofNat (tabC.getD k 0)) := by decide
theorem tabC_nat : ∀ k, k < 7 → (UInt8.ofNat (tabC.getD k 0)).toNat = tabC.getD k 0 := by decide
theorem tabW_get : ∀ k, k < 7 → (tabW.map intC)[k]? = some [.int .i64 ((tabW.getD k 0 : Nat) : Int)] := fun k hk => by
  rw [List.getElem?_map, List.getElem?_eq_getElem (show k < tabW.length from hk), List.getD_eq_getElem?_getD, List.getElem?_eq_getElem (show k < tabW.length from hk)]; rfl
theorem rom_in {n v i : Int} {up : Bool} {s : List UInt8} {last cc : Nat} {st0 : St} {ks : List Kont} {Q : Post3} : ∀ (d k : Nat), k + d = 7 → ∀ (st : St), Ext st0 st → ∀ env, lookE 0 env = some (.int .i64 n) → lookE 1 env = some (.bool up) → lookE 7 env = some (.str s) → lookE 8 env = some (.int .i64 v) → lookE 9 env = some (.int .i64 (last : Int)) → lookE 10 env = some (.int .i64 i) → lookE 11 env = some (.int .u8 (cc : Int)) → lookE 12 env = some (.int .i64 (wTo cc k : Int)) → lookE 13 env = some (.int .i64 (k : Int)) →
    (∀ env st2, Ext st0 st2 → lookE 0 env = some (.int .i64 n) → lookE 1 env = some (.bool up) → lookE 7 env = some (.str s) → lookE 8 env = some (.int .i64 v) → lookE 9 env = some (.int .i64 (last : Int)) → lookE 10 env = some (.int .i64 i) → lookE 12 env = some (.int .i64 (wTo cc 7 : Int)) → after (CS sum) 85 none ks Q .normal env st2) →
    WK (CS sum) 85 none c7in (.block 2 :: ks) env st Q := by
  intro d
  induction d with
  | zero =>
    intro k hk st hext env h0 h1 h7 h8 h9 h10 h11 h12 h13 hfin
    obtain rfl : k = 7 := hk
    refine WK.sub [(0, .int .i64 n), (1, .bool up), (7, .str s), (8, .int .i64 v), (9, .int .i64 (last : Int)), (10, .int .i64 i), (11, .int .u8 (cc : Int)), (12, .int .i64 (wTo cc (7 : Nat) : Int)), (13, .int .i64 ((7 : Nat) : Int))] ?_ ?_
    · intro t v ht
      simp only [lookE_cons] at ht
      by_cases e0 : t = 0
      · rw [if_pos e0] at ht; subst e0; rw [h0]; exact ht
      rw [if_neg e0] at ht
      by_cases e1 : t = 1
      · rw [if_pos e1] at ht; subst e1; rw [h1]; exact ht
      rw [if_neg e1] at ht
      by_cases e7 : t = 7
      · rw [if_pos e7] at ht; subst e7; rw [h7]; exact ht
      rw [if_neg e7] at ht
      by_cases e8 : t = 8
      · rw [if_pos e8] at ht; subst e8; rw [h8]; exact ht
      rw [if_neg e8] at ht
      by_cases e9 : t = 9
      · rw [if_pos e9] at ht; subst e9; rw [h9]; exact ht
      rw [if_neg e9] at ht
      by_cases e10 : t = 10
      · rw [if_pos e10] at ht; subst e10; rw [h10]; exact ht
      rw [if_neg e10] at ht
      by_cases e11 : t = 11
      · rw [if_pos e11] at ht; subst e11; rw [h11]; exact ht
      rw [if_neg e11] at ht
      by_cases e12 : t = 12
      · rw [if_pos e12] at ht; subst e12; rw [h12]; exact ht
      rw [if_neg e12] at ht
      by_cases e13 : t = 13
      · rw [if_pos e13] at ht; subst e13; rw [h13]; exact ht
      rw [if_neg e13] at ht
      cases ht
    unfold c7in
    refine WK.loop ?_
    refine WK.seq ?_
    refine WK.seq ?_
    refine WK.region ?_
    refine WR.op rfl rfl rfl rfl ?_
    refine WR.op rfl rfl (r_lss rfl rfl rfl) rfl ?_
    refine WR.nil ?_
    refine after.seq ?_
    refine WK.cond rfl (fun h => (by cases h)) (fun _ => ?_)
    refine WK.exit ?_
    refine after.seq_exit ?_
    refine after.seq_exit ?_
    refine after.exit ?_
    exact hfin _ st hext rfl rfl rfl rfl rfl rfl rfl
  | succ d ih =>
    intro k hk st hext env h0 h1 h7 h8 h9 h10 h11 h12 h13 hfin
    have hk7 : k < 7 := by omega
    refine WK.sub [(0, .int .i64 n), (1, .bool up), (7, .str s), (8, .int .i64 v), (9, .int .i64 (last : Int)), (10, .int .i64 i), (11, .int .u8 (cc : Int)), (12, .int .i64 (wTo cc k : Int)), (13, .int .i64 (k : Int))] ?_ ?_
    · intro t v ht
      simp only [lookE_cons] at ht
      by_cases e0 : t = 0
      · rw [if_pos e0] at ht; subst e0; rw [h0]; exact ht
      rw [if_neg e0] at ht
      by_cases e1 : t = 1
      · rw [if_pos e1] at ht; subst e1; rw [h1]; exact ht
      rw [if_neg e1] at ht
      by_cases e7 : t = 7
      · rw [if_pos e7] at ht; subst e7; rw [h7]; exact ht
      rw [if_neg e7] at ht
      by_cases e8 : t = 8
      · rw [if_pos e8] at ht; subst e8; rw [h8]; exact ht
      rw [if_neg e8] at ht
      by_cases e9 : t = 9
      · rw [if_pos e9] at ht; subst e9; rw [h9]; exact ht
      rw [if_neg e9] at ht
      by_cases e10 : t = 10
      · rw [if_pos e10] at ht; subst e10; rw [h10]; exact ht
      rw [if_neg e10] at ht
      by_cases e11 : t = 11
      · rw [if_pos e11] at ht; subst e11; rw [h11]; exact ht
      rw [if_neg e11] at ht
      by_cases e12 : t = 12
      · rw [if_pos e12] at ht; subst e12; rw [h12]; exact ht
      rw [if_neg e12] at ht
      by_cases e13 : t = 13
      · rw [if_pos e13] at ht; subst e13; rw [h13]; exact ht
      rw [if_neg e13] at ht
      cases ht
    unfold c7in
    refine WK.loop ?_
    by_cases hm : tabC.getD k 0 = cc
    · obtain ⟨mm, off, hia, hla⟩ := (els_lit st 3 7 (tabW.map intC) rfl).at (n := k) un55 sz3 (show k < 7 from hk7)
      refine WK.seq ?_
      refine WK.seq ?_
      refine WK.region ?_
      refine WR.op rfl rfl rfl rfl ?_
      refine WR.op rfl rfl (r_lss rfl rfl (iltb_t (by omega))) rfl ?_
      refine WR.nil ?_
      refine after.seq ?_
      refine WK.cond rfl (fun _ => ?_) (fun h => (by cases h))
      refine WK.skip ?_
      refine after.seq ?_
      refine WK.seq ?_
      refine WK.block ?_
      refine WK.seq ?_
      refine WK.region ?_
      refine WR.op rfl rfl rfl rfl ?_
      refine WR.op rfl rfl (r_sidx Tryz.underlying9 rfl rfl (tabC_get k hk7) (tabC_nat k hk7)) rfl ?_
      refine WR.op rfl rfl rfl rfl ?_
      refine WR.op rfl rfl (r_eql rfl rfl (q := true) (by rw [hm]; exact ieqb_self _)) rfl ?_
      refine WR.nil ?_
      refine after.seq ?_
      refine WK.cond rfl (fun _ => ?_) (fun h => (by cases h))
      refine WK.region ?_
      refine WR.op rfl rfl (r_blds rfl lit7) rfl ?_
      refine WR.op rfl rfl rfl rfl ?_
      refine WR.op rfl rfl (hia rfl rfl) rfl ?_
      refine WR.op rfl rfl ((hla _ (tabW_get k hk7) rfl _ _ _ rfl).1 agg3 _ rfl) rfl ?_
      refine WR.op rfl rfl rfl rfl ?_
      refine WR.nil ?_
      refine after.block ?_
      refine after.seq ?_
      refine WK.region ?_
      refine WR.op rfl rfl rfl rfl ?_
      refine WR.op rfl rfl (r_arith ⟨by decide, by decide⟩ rfl rfl (add_nat (b := 1) (by omega))) rfl ?_
      refine WR.op rfl rfl rfl rfl ?_
      refine WR.nil ?_
      refine after.seq ?_
      exact ih (k + 1) (by omega) _ (hext.push _) _ rfl rfl rfl rfl rfl rfl rfl (by rw [wTo, if_pos hm]; rfl) rfl hfin
    · refine WK.seq ?_
      refine WK.seq ?_
      refine WK.region ?_
      refine WR.op rfl rfl rfl rfl ?_
      refine WR.op rfl rfl (r_lss rfl rfl (iltb_t (by omega))) rfl ?_
      refine WR.nil ?_
      refine after.seq ?_
      refine WK.cond rfl (fun _ => ?_) (fun h => (by cases h))
      refine WK.skip ?_
      refine after.seq ?_
      refine WK.seq ?_
      refine WK.block ?_
      refine WK.seq ?_
      refine WK.region ?_
      refine WR.op rfl rfl rfl rfl ?_
      refine WR.op rfl rfl (r_sidx Tryz.underlying9 rfl rfl (tabC_get k hk7) (tabC_nat k hk7)) rfl ?_
      refine WR.op rfl rfl rfl rfl ?_
      refine WR.op rfl rfl (r_eql rfl rfl (q := false) (ieqb_f (by omega))) rfl ?_
      refine WR.nil ?_
      refine after.seq ?_
      refine WK.cond rfl (fun h => (by cases h)) (fun _ => ?_)
      refine WK.skip ?_
      refine after.block ?_
      refine after.seq ?_
      refine WK.region ?_
      refine WR.op rfl rfl rfl rfl ?_
      refine WR.op rfl rfl (r_arith ⟨by decide, by decide⟩ rfl rfl (add_nat (b := 1) (by omega))) rfl ?_
      refine WR.op rfl rfl rfl rfl ?_
      refine WR.nil ?_
      refine after.seq ?_
      exact ih (k + 1) (by omega) _ hext _ rfl rfl rfl rfl rfl rfl rfl (by rw [wTo, if_neg hm]; rfl) rfl hfin
theorem rom_out {n N : Int} {up : Bool} {s : List UInt8} {cs : List Nat} (hlen : s.length < 1000000) (hs : ∀ j, j < s.length → ∃ b : UInt8, s[j]? = some b ∧ b.toNat + (if up = true then 32 else 0) = cs.getD j 0 ∧ cs.getD j 0 < 256 ∧ wTo (cs.getD j 0) 7 ≠ 0) {st0 : St} {ks : List Kont} {Q : Post3} : ∀ (j : Nat), j ≤ s.length → ∀ (v : Int) (last : Nat) (st : St), -(1000 * ((s.length : Int) - j)) ≤ v → v ≤ 1000 * ((s.length : Int) - j) → rvTo cs j v last = N → Ext st0 st →
    ∀ env, lookE 0 env = some (.int .i64 n) → lookE 1 env = some (.bool up) → lookE 7 env = some (.str s) → lookE 8 env = some (.int .i64 v) → lookE 9 env = some (.int .i64 (last : Int)) → lookE 10 env = some (.int .i64 ((j : Int) - 1)) →
    (∀ env' st2, Ext st0 st2 → lookE 0 env' = some (.int .i64 n) → lookE 8 env' = some (.int .i64 N) → after (CS sum) 85 none ks Q .normal env' st2) →
    WK (CS sum) 85 none c7out (.block 0 :: ks) env st Q := by
  intro j
  induction j with
  | zero =>
    intro hj v last st hv1 hv2 hr hext env h0 h1 h7 h8 h9 h10 hfin
    have hr : v = N := hr
    refine WK.sub [(0, .int .i64 n), (1, .bool up), (7, .str s), (8, .int .i64 v), (9, .int .i64 (last : Int)), (10, .int .i64 (((0 : Nat) : Int) - 1))] ?_ ?_
    · intro t v ht
      simp only [lookE_cons] at ht
      by_cases e0 : t = 0
      · rw [if_pos e0] at ht; subst e0; rw [h0]; exact ht
      rw [if_neg e0] at ht
      by_cases e1 : t = 1
      · rw [if_pos e1] at ht; subst e1; rw [h1]; exact ht
      rw [if_neg e1] at ht
      by_cases e7 : t = 7
      · rw [if_pos e7] at ht; subst e7; rw [h7]; exact ht
      rw [if_neg e7] at ht
      by_cases e8 : t = 8
      · rw [if_pos e8] at ht; subst e8; rw [h8]; exact ht
      rw [if_neg e8] at ht
      by_cases e9 : t = 9
      · rw [if_pos e9] at ht; subst e9; rw [h9]; exact ht
      rw [if_neg e9] at ht
      by_cases e10 : t = 10
      · rw [if_pos e10] at ht; subst e10; rw [h10]; exact ht
      rw [if_neg e10] at ht
      cases ht
    unfold c7out
    refine WK.loop ?_
    refine WK.seq ?_
    refine WK.seq ?_
    refine WK.region ?_
    refine WR.op rfl rfl rfl rfl ?_
    refine WR.op rfl rfl (r_geq rfl rfl (q := false) rfl) rfl ?_
    refine WR.nil ?_
    refine after.seq ?_
    refine WK.cond rfl (fun h => (by cases h)) (fun _ => ?_)
    refine WK.exit ?_
    refine after.seq_exit ?_
    refine after.seq_exit ?_
    refine after.exit ?_
    exact hfin _ st hext rfl (by show some (AV.int .i64 v) = _; rw [hr])
  | succ j ih =>
    intro hj v last st hv1 hv2 hr hext env h0 h1 h7 h8 h9 h10 hfin
    obtain ⟨b, hb1, hb2, hb3, hb4⟩ := hs j (by omega)
    have hw := wTo_le (cs.getD j 0) 7
    have ej : ((j + 1 : Nat) : Int) - 1 = (j : Int) := by omega
    rw [ej] at h10
    rw [rvTo] at hr
    refine WK.sub [(0, .int .i64 n), (1, .bool up), (7, .str s), (8, .int .i64 v), (9, .int .i64 (last : Int)), (10, .int .i64 (j : Int))] ?_ ?_
    · intro t v ht
      simp only [lookE_cons] at ht
      by_cases e0 : t = 0
      · rw [if_pos e0] at ht; subst e0; rw [h0]; exact ht
      rw [if_neg e0] at ht
      by_cases e1 : t = 1
      · rw [if_pos e1] at ht; subst e1; rw [h1]; exact ht
      rw [if_neg e1] at ht
      by_cases e7 : t = 7
      · rw [if_pos e7] at ht; subst e7; rw [h7]; exact ht
      rw [if_neg e7] at ht
      by_cases e8 : t = 8
      · rw [if_pos e8] at ht; subst e8; rw [h8]; exact ht
      rw [if_neg e8] at ht
      by_cases e9 : t = 9
      · rw [if_pos e9] at ht; subst e9; rw [h9]; exact ht
      rw [if_neg e9] at ht
      by_cases e10 : t = 10
      · rw [if_pos e10] at ht; subst e10; rw [h10]; exact ht
      rw [if_neg e10] at ht
      cases ht
    unfold c7out
    refine WK.loop ?_
    cases up with
    | true =>
      rw [if_pos rfl] at hb2
      by_cases hlt : wTo (cs.getD j 0) 7 < last
      · rw [if_pos hlt] at hr
        refine WK.seq ?_
        refine WK.seq ?_
        refine WK.region ?_
        refine WR.op rfl rfl rfl rfl ?_
        refine WR.op rfl rfl (r_geq rfl rfl (q := true) (by rw [iltb_f (by omega)]; rfl)) rfl ?_
        refine WR.nil ?_
        refine after.seq ?_
        refine WK.cond rfl (fun _ => ?_) (fun h => (by cases h))
        refine WK.skip ?_
        refine after.seq ?_
        refine WK.seq ?_
        refine WK.block ?_
        refine WK.seq ?_
        refine WK.region ?_
        refine WR.op rfl rfl rfl rfl ?_
        refine WR.op rfl rfl rfl rfl ?_
        refine WR.op rfl rfl (r_sidx Tryz.underlying9 rfl rfl hb1 rfl) rfl ?_
        refine WR.op rfl rfl rfl rfl ?_
        refine WR.nil ?_
        refine after.seq ?_
        refine WK.seq ?_
        refine WK.seq ?_
        refine WK.region ?_
        refine WR.op rfl rfl rfl rfl ?_
        refine WR.nil ?_
        refine after.seq ?_
        refine WK.cond rfl (fun _ => ?_) (fun h => (by cases h))
        refine WK.region ?_
        refine WR.op rfl rfl rfl rfl ?_
        refine WR.op rfl rfl (r_arith ⟨by decide, by decide⟩ rfl rfl (addB' (a := b.toNat) (b := 32) (c := cs.getD j 0) hb2 (by omega))) rfl ?_
        refine WR.op rfl rfl rfl rfl ?_
        refine WR.nil ?_
        refine after.seq ?_
        refine WK.seq ?_
        refine WK.region ?_
        refine WR.op rfl rfl rfl rfl ?_
        refine WR.nil ?_
        refine after.seq ?_
        refine WK.seq ?_
        refine WK.seq ?_
        refine WK.region ?_
        refine WR.op rfl rfl rfl rfl ?_
        refine WR.nil ?_
        refine after.seq ?_
        refine WK.block ?_
        refine rom_in (sum := sum) (n := n) (v := v) (i := (j : Int)) (up := true) (s := s) (last := last) (cc := cs.getD j 0) (st0 := st0) 7 0 rfl _ hext _ rfl rfl rfl rfl rfl rfl rfl rfl rfl fun env2 st2 k2 g0 g1 g7 g8 g9 g10 g12 => ?_
        refine after.seq ?_
        refine WK.sub [(0, .int .i64 n), (1, .bool true), (7, .str s), (8, .int .i64 v), (9, .int .i64 (last : Int)), (10, .int .i64 (j : Int)), (12, .int .i64 (wTo (cs.getD j 0) 7 : Int))] ?_ ?_
        · intro t v ht
          simp only [lookE_cons] at ht
          by_cases e0 : t = 0
          · rw [if_pos e0] at ht; subst e0; rw [g0]; exact ht
          rw [if_neg e0] at ht
          by_cases e1 : t = 1
          · rw [if_pos e1] at ht; subst e1; rw [g1]; exact ht
          rw [if_neg e1] at ht
          by_cases e7 : t = 7
          · rw [if_pos e7] at ht; subst e7; rw [g7]; exact ht
          rw [if_neg e7] at ht
          by_cases e8 : t = 8
          · rw [if_pos e8] at ht; subst e8; rw [g8]; exact ht
          rw [if_neg e8] at ht
          by_cases e9 : t = 9
          · rw [if_pos e9] at ht; subst e9; rw [g9]; exact ht
          rw [if_neg e9] at ht
          by_cases e10 : t = 10
          · rw [if_pos e10] at ht; subst e10; rw [g10]; exact ht
          rw [if_neg e10] at ht
          by_cases e12 : t = 12
          · rw [if_pos e12] at ht; subst e12; rw [g12]; exact ht
          rw [if_neg e12] at ht
          cases ht
        refine WK.seq ?_
        refine WK.seq ?_
        refine WK.region ?_
        refine WR.op rfl rfl rfl rfl ?_
        refine WR.op rfl rfl (r_eql rfl rfl (q := false) (ieqb_f (by omega))) rfl ?_
        refine WR.nil ?_
        refine after.seq ?_
        refine WK.cond rfl (fun h => (by cases h)) (fun _ => ?_)
        refine WK.skip ?_
        refine after.seq ?_
        refine WK.seq ?_
        refine WK.region ?_
        refine WR.op rfl rfl rfl rfl ?_
        refine WR.op rfl rfl rfl rfl ?_
        refine WR.op rfl rfl (r_lss rfl rfl (iltb_t (by omega))) rfl ?_
        refine WR.nil ?_
        refine after.seq ?_
        refine WK.cond rfl (fun _ => ?_) (fun h => (by cases h))
        refine WK.region ?_
        refine WR.op rfl rfl rfl rfl ?_
        refine WR.op rfl rfl rfl rfl ?_
        refine WR.op rfl rfl (r_arith ⟨by decide, by decide⟩ rfl rfl (sub_int (by omega) (by omega))) rfl ?_
        refine WR.op rfl rfl rfl rfl ?_
        refine WR.nil ?_
        refine after.block ?_
        refine after.seq ?_
        refine WK.region ?_
        refine WR.op rfl rfl rfl rfl ?_
        refine WR.op rfl rfl (r_arith ⟨by decide, by decide⟩ rfl rfl (sub_int (b := 1) (by omega) (by omega))) rfl ?_
        refine WR.op rfl rfl rfl rfl ?_
        refine WR.nil ?_
        refine after.seq ?_
        exact ih (by omega) _ _ st2 (by omega) (by omega) hr k2 _ rfl rfl rfl rfl rfl rfl hfin
      · rw [if_neg hlt] at hr
        refine WK.seq ?_
        refine WK.seq ?_
        refine WK.region ?_
        refine WR.op rfl rfl rfl rfl ?_
        refine WR.op rfl rfl (r_geq rfl rfl (q := true) (by rw [iltb_f (by omega)]; rfl)) rfl ?_
        refine WR.nil ?_
        refine after.seq ?_
        refine WK.cond rfl (fun _ => ?_) (fun h => (by cases h))
        refine WK.skip ?_
        refine after.seq ?_
        refine WK.seq ?_
        refine WK.block ?_
        refine WK.seq ?_
        refine WK.region ?_
        refine WR.op rfl rfl rfl rfl ?_
        refine WR.op rfl rfl rfl rfl ?_
        refine WR.op rfl rfl (r_sidx Tryz.underlying9 rfl rfl hb1 rfl) rfl ?_
        refine WR.op rfl rfl rfl rfl ?_
        refine WR.nil ?_
        refine after.seq ?_
        refine WK.seq ?_
        refine WK.seq ?_
        refine WK.region ?_
        refine WR.op rfl rfl rfl rfl ?_
        refine WR.nil ?_
        refine after.seq ?_
        refine WK.cond rfl (fun _ => ?_) (fun h => (by cases h))
        refine WK.region ?_
        refine WR.op rfl rfl rfl rfl ?_
        refine WR.op rfl rfl (r_arith ⟨by decide, by decide⟩ rfl rfl (addB' (a := b.toNat) (b := 32) (c := cs.getD j 0) hb2 (by omega))) rfl ?_
        refine WR.op rfl rfl rfl rfl ?_
        refine WR.nil ?_
        refine after.seq ?_
        refine WK.seq ?_
        refine WK.region ?_
        refine WR.op rfl rfl rfl rfl ?_
        refine WR.nil ?_
        refine after.seq ?_
        refine WK.seq ?_
        refine WK.seq ?_
        refine WK.region ?_
        refine WR.op rfl rfl rfl rfl ?_
        refine WR.nil ?_
        refine after.seq ?_
        refine WK.block ?_
        refine rom_in (sum := sum) (n := n) (v := v) (i := (j : Int)) (up := true) (s := s) (last := last) (cc := cs.getD j 0) (st0 := st0) 7 0 rfl _ hext _ rfl rfl rfl rfl rfl rfl rfl rfl rfl fun env2 st2 k2 g0 g1 g7 g8 g9 g10 g12 => ?_
        refine after.seq ?_
        refine WK.sub [(0, .int .i64 n), (1, .bool true), (7, .str s), (8, .int .i64 v), (9, .int .i64 (last : Int)), (10, .int .i64 (j : Int)), (12, .int .i64 (wTo (cs.getD j 0) 7 : Int))] ?_ ?_
        · intro t v ht
          simp only [lookE_cons] at ht
          by_cases e0 : t = 0
          · rw [if_pos e0] at ht; subst e0; rw [g0]; exact ht
          rw [if_neg e0] at ht
          by_cases e1 : t = 1
          · rw [if_pos e1] at ht; subst e1; rw [g1]; exact ht
          rw [if_neg e1] at ht
          by_cases e7 : t = 7
          · rw [if_pos e7] at ht; subst e7; rw [g7]; exact ht
          rw [if_neg e7] at ht
          by_cases e8 : t = 8
          · rw [if_pos e8] at ht; subst e8; rw [g8]; exact ht
          rw [if_neg e8] at ht
          by_cases e9 : t = 9
          · rw [if_pos e9] at ht; subst e9; rw [g9]; exact ht
          rw [if_neg e9] at ht
          by_cases e10 : t = 10
          · rw [if_pos e10] at ht; subst e10; rw [g10]; exact ht
          rw [if_neg e10] at ht
          by_cases e12 : t = 12
          · rw [if_pos e12] at ht; subst e12; rw [g12]; exact ht
          rw [if_neg e12] at ht
          cases ht
        refine WK.seq ?_
        refine WK.seq ?_
        refine WK.region ?_
        refine WR.op rfl rfl rfl rfl ?_
        refine WR.op rfl rfl (r_eql rfl rfl (q := false) (ieqb_f (by omega))) rfl ?_
        refine WR.nil ?_
        refine after.seq ?_
        refine WK.cond rfl (fun h => (by cases h)) (fun _ => ?_)
        refine WK.skip ?_
        refine after.seq ?_
        refine WK.seq ?_
        refine WK.region ?_
        refine WR.op rfl rfl rfl rfl ?_
        refine WR.op rfl rfl rfl rfl ?_
        refine WR.op rfl rfl (r_lss rfl rfl (iltb_f (by omega))) rfl ?_
        refine WR.nil ?_
        refine after.seq ?_
        refine WK.cond rfl (fun h => (by cases h)) (fun _ => ?_)
        refine WK.seq ?_
        refine WK.region ?_
        refine WR.op rfl rfl rfl rfl ?_
        refine WR.op rfl rfl rfl rfl ?_
        refine WR.op rfl rfl (r_arith ⟨by decide, by decide⟩ rfl rfl (add_int (by omega) (by omega))) rfl ?_
        refine WR.op rfl rfl rfl rfl ?_
        refine WR.nil ?_
        refine after.seq ?_
        refine WK.region ?_
        refine WR.op rfl rfl rfl rfl ?_
        refine WR.op rfl rfl rfl rfl ?_
        refine WR.nil ?_
        refine after.block ?_
        refine after.seq ?_
        refine WK.region ?_
        refine WR.op rfl rfl rfl rfl ?_
        refine WR.op rfl rfl (r_arith ⟨by decide, by decide⟩ rfl rfl (sub_int (b := 1) (by omega) (by omega))) rfl ?_
        refine WR.op rfl rfl rfl rfl ?_
        refine WR.nil ?_
        refine after.seq ?_
        exact ih (by omega) _ _ st2 (by omega) (by omega) hr k2 _ rfl rfl rfl rfl rfl rfl hfin
    | false =>
      rw [if_neg (by decide)] at hb2
      by_cases hlt : wTo (cs.getD j 0) 7 < last
      · rw [if_pos hlt] at hr
        refine WK.seq ?_
        refine WK.seq ?_
        refine WK.region ?_
        refine WR.op rfl rfl rfl rfl ?_
        refine WR.op rfl rfl (r_geq rfl rfl (q := true) (by rw [iltb_f (by omega)]; rfl)) rfl ?_
        refine WR.nil ?_
        refine after.seq ?_
        refine WK.cond rfl (fun _ => ?_) (fun h => (by cases h))
        refine WK.skip ?_
        refine after.seq ?_
        refine WK.seq ?_
        refine WK.block ?_
        refine WK.seq ?_
        refine WK.region ?_
        refine WR.op rfl rfl rfl rfl ?_
        refine WR.op rfl rfl rfl rfl ?_
        refine WR.op rfl rfl (r_sidx Tryz.underlying9 rfl rfl hb1 rfl) rfl ?_
        refine WR.op rfl rfl rfl rfl ?_
        refine WR.nil ?_
        refine after.seq ?_
        refine WK.seq ?_
        refine WK.seq ?_
        refine WK.region ?_
        refine WR.op rfl rfl rfl rfl ?_
        refine WR.nil ?_
        refine after.seq ?_
        refine WK.cond rfl (fun h => (by cases h)) (fun _ => ?_)
        refine WK.skip ?_
        refine after.seq ?_
        refine WK.seq ?_
        refine WK.region ?_
        refine WR.op rfl rfl rfl rfl ?_
        refine WR.nil ?_
        refine after.seq ?_
        refine WK.seq ?_
        refine WK.seq ?_
        refine WK.region ?_
        refine WR.op rfl rfl rfl rfl ?_
        refine WR.nil ?_
        refine after.seq ?_
        refine WK.block ?_
        refine rom_in (sum := sum) (n := n) (v := v) (i := (j : Int)) (up := false) (s := s) (last := last) (cc := cs.getD j 0) (st0 := st0) 7 0 rfl _ hext _ rfl rfl rfl rfl rfl rfl (by show some (AV.int .u8 (b.toNat : Int)) = _; rw [← hb2]; rfl) rfl rfl fun env2 st2 k2 g0 g1 g7 g8 g9 g10 g12 => ?_
        refine after.seq ?_
        refine WK.sub [(0, .int .i64 n), (1, .bool false), (7, .str s), (8, .int .i64 v), (9, .int .i64 (last : Int)), (10, .int .i64 (j : Int)), (12, .int .i64 (wTo (cs.getD j 0) 7 : Int))] ?_ ?_
        · intro t v ht
          simp only [lookE_cons] at ht
          by_cases e0 : t = 0
          · rw [if_pos e0] at ht; subst e0; rw [g0]; exact ht
          rw [if_neg e0] at ht
          by_cases e1 : t = 1
          · rw [if_pos e1] at ht; subst e1; rw [g1]; exact ht
          rw [if_neg e1] at ht
          by_cases e7 : t = 7
          · rw [if_pos e7] at ht; subst e7; rw [g7]; exact ht
          rw [if_neg e7] at ht
          by_cases e8 : t = 8
          · rw [if_pos e8] at ht; subst e8; rw [g8]; exact ht
          rw [if_neg e8] at ht
          by_cases e9 : t = 9
          · rw [if_pos e9] at ht; subst e9; rw [g9]; exact ht
          rw [if_neg e9] at ht
          by_cases e10 : t = 10
          · rw [if_pos e10] at ht; subst e10; rw [g10]; exact ht
          rw [if_neg e10] at ht
          by_cases e12 : t = 12
          · rw [if_pos e12] at ht; subst e12; rw [g12]; exact ht
          rw [if_neg e12] at ht
          cases ht
        refine WK.seq ?_
        refine WK.seq ?_
        refine WK.region ?_
        refine WR.op rfl rfl rfl rfl ?_
        refine WR.op rfl rfl (r_eql rfl rfl (q := false) (ieqb_f (by omega))) rfl ?_
        refine WR.nil ?_
        refine after.seq ?_
        refine WK.cond rfl (fun h => (by cases h)) (fun _ => ?_)
        refine WK.skip ?_
        refine after.seq ?_
        refine WK.seq ?_
        refine WK.region ?_
        refine WR.op rfl rfl rfl rfl ?_
        refine WR.op rfl rfl rfl rfl ?_
        refine WR.op rfl rfl (r_lss rfl rfl (iltb_t (by omega))) rfl ?_
        refine WR.nil ?_
        refine after.seq ?_
        refine WK.cond rfl (fun _ => ?_) (fun h => (by cases h))
        refine WK.region ?_
        refine WR.op rfl rfl rfl rfl ?_
        refine WR.op rfl rfl rfl rfl ?_
        refine WR.op rfl rfl (r_arith ⟨by decide, by decide⟩ rfl rfl (sub_int (by omega) (by omega))) rfl ?_
        refine WR.op rfl rfl rfl rfl ?_
        refine WR.nil ?_
        refine after.block ?_
        refine after.seq ?_
        refine WK.region ?_
        refine WR.op rfl rfl rfl rfl ?_
        refine WR.op rfl rfl (r_arith ⟨by decide, by decide⟩ rfl rfl (sub_int (b := 1) (by omega) (by omega))) rfl ?_
        refine WR.op rfl rfl rfl rfl ?_
        refine WR.nil ?_
        refine after.seq ?_
        exact ih (by omega) _ _ st2 (by omega) (by omega) hr k2 _ rfl rfl rfl rfl rfl rfl hfin
      · rw [if_neg hlt] at hr
        refine WK.seq ?_
        refine WK.seq ?_
        refine WK.region ?_
        refine WR.op rfl rfl rfl rfl ?_
        refine WR.op rfl rfl (r_geq rfl rfl (q := true) (by rw [iltb_f (by omega)]; rfl)) rfl ?_
        refine WR.nil ?_
        refine after.seq ?_
        refine WK.cond rfl (fun _ => ?_) (fun h => (by cases h))
        refine WK.skip ?_
        refine after.seq ?_
        refine WK.seq ?_
        refine WK.block ?_
        refine WK.seq ?_
        refine WK.region ?_
        refine WR.op rfl rfl rfl rfl ?_
        refine WR.op rfl rfl rfl rfl ?_
        refine WR.op rfl rfl (r_sidx Tryz.underlying9 rfl rfl hb1 rfl) rfl ?_
        refine WR.op rfl rfl rfl rfl ?_
        refine WR.nil ?_
        refine after.seq ?_
        refine WK.seq ?_
        refine WK.seq ?_
        refine WK.region ?_
        refine WR.op rfl rfl rfl rfl ?_
        refine WR.nil ?_
        refine after.seq ?_
        refine WK.cond rfl (fun h => (by cases h)) (fun _ => ?_)
        refine WK.skip ?_
        refine after.seq ?_
        refine WK.seq ?_
        refine WK.region ?_
        refine WR.op rfl rfl rfl rfl ?_
        refine WR.nil ?_
        refine after.seq ?_
        refine WK.seq ?_
        refine WK.seq ?_
        refine WK.region ?_
        refine WR.op rfl rfl rfl rfl ?_
        refine WR.nil ?_
        refine after.seq ?_
        refine WK.block ?_
        refine rom_in (sum := sum) (n := n) (v := v) (i := (j : Int)) (up := false) (s := s) (last := last) (cc := cs.getD j 0) (st0 := st0) 7 0 rfl _ hext _ rfl rfl rfl rfl rfl rfl (by show some (AV.int .u8 (b.toNat : Int)) = _; rw [← hb2]; rfl) rfl rfl fun env2 st2 k2 g0 g1 g7 g8 g9 g10 g12 => ?_
        refine after.seq ?_
        refine WK.sub [(0, .int .i64 n), (1, .bool false), (7, .str s), (8, .int .i64 v), (9, .int .i64 (last : Int)), (10, .int .i64 (j : Int)), (12, .int .i64 (wTo (cs.getD j 0) 7 : Int))] ?_ ?_
        · intro t v ht
          simp only [lookE_cons] at ht
          by_cases e0 : t = 0
          · rw [if_pos e0] at ht; subst e0; rw [g0]; exact ht
          rw [if_neg e0] at ht
          by_cases e1 : t = 1
          · rw [if_pos e1] at ht; subst e1; rw [g1]; exact ht
          rw [if_neg e1] at ht
          by_cases e7 : t = 7
          · rw [if_pos e7] at ht; subst e7; rw [g7]; exact ht
          rw [if_neg e7] at ht
          by_cases e8 : t = 8
          · rw [if_pos e8] at ht; subst e8; rw [g8]; exact ht
          rw [if_neg e8] at ht
          by_cases e9 : t = 9
          · rw [if_pos e9] at ht; subst e9; rw [g9]; exact ht
          rw [if_neg e9] at ht
          by_cases e10 : t = 10
          · rw [if_pos e10] at ht; subst e10; rw [g10]; exact ht
          rw [if_neg e10] at ht
          by_cases e12 : t = 12
          · rw [if_pos e12] at ht; subst e12; rw [g12]; exact ht
          rw [if_neg e12] at ht
          cases ht
        refine WK.seq ?_
        refine WK.seq ?_
        refine WK.region ?_
        refine WR.op rfl rfl rfl rfl ?_
        refine WR.op rfl rfl (r_eql rfl rfl (q := false) (ieqb_f (by omega))) rfl ?_
        refine WR.nil ?_
        refine after.seq ?_
        refine WK.cond rfl (fun h => (by cases h)) (fun _ => ?_)
        refine WK.skip ?_
        refine after.seq ?_
        refine WK.seq ?_
        refine WK.region ?_
        refine WR.op rfl rfl rfl rfl ?_
        refine WR.op rfl rfl rfl rfl ?_
        refine WR.op rfl rfl (r_lss rfl rfl (iltb_f (by omega))) rfl ?_
        refine WR.nil ?_
        refine after.seq ?_
        refine WK.cond rfl (fun h => (by cases h)) (fun _ => ?_)
        refine WK.seq ?_
        refine WK.region ?_
        refine WR.op rfl rfl rfl rfl ?_
        refine WR.op rfl rfl rfl rfl ?_
        refine WR.op rfl rfl (r_arith ⟨by decide, by decide⟩ rfl rfl (add_int (by omega) (by omega))) rfl ?_
        refine WR.op rfl rfl rfl rfl ?_
        refine WR.nil ?_
        refine after.seq ?_
        refine WK.region ?_
        refine WR.op rfl rfl rfl rfl ?_
        refine WR.op rfl rfl rfl rfl ?_
        refine WR.nil ?_
        refine after.block ?_
        refine after.seq ?_
        refine WK.region ?_
        refine WR.op rfl rfl rfl rfl ?_
        refine WR.op rfl rfl (r_arith ⟨by decide, by decide⟩ rfl rfl (sub_int (b := 1) (by omega) (by omega))) rfl ?_
        refine WR.op rfl rfl rfl rfl ?_
        refine WR.nil ?_
        refine after.seq ?_
        exact ih (by omega) _ _ st2 (by omega) (by omega) hr k2 _ rfl rfl rfl rfl rfl rfl hfin
end Go.Proofs.Tz
