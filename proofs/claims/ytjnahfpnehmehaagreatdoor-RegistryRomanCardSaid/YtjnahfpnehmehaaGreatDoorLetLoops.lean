/- RegistryLetters: the walk of the law. -/
import Derived.Test.YtjnahfpnehmehaaGreatDoorReg14
import Derived.Test.YtjnahfpnehmehaaGreatDoorTz5
namespace Go.Proofs.Tz
open Go Go.AE Go.RowKit Go.Proofs
set_option maxRecDepth 100000
variable {sum : FuncId → List AV → St → Option (AV × St)}
/-- The package is awake. -/
def XA (aw : FuncId) : Known := fun f xs st r => f = aw ∧ xs = [] ∧ KnowsG st ∧ r = (.bool true, st)
theorem XA_dom (aw : FuncId) : Dom (XA aw) [aw] := fun f xs st r h => by rw [h.1]; simp
theorem aw_ok {aw : FuncId} (h : aw ∉ [19, 55, 70]) {st : St} (hk : KnowsG st) : CallW (CS (sumK (XA aw))) aw [] st fun v st' => v = .bool true ∧ st' = st := by
  refine CallW.known (.more (X := XA aw) ⟨rfl, rfl, hk, rfl⟩) fun v st' k => ?_
  cases k with
  | more k => obtain ⟨_, _, _, k⟩ := k; exact Prod.mk.inj k
theorem stG_knows (e : TypeId) : KnowsG (stG e) := ⟨e, fun _ _ h => h⟩
theorem stG_pt (e : TypeId) : PT id (stG e) (stG e) := PT.base (stG_low e) ⟨Nat.le_refl _, fun _ _ h => h, fun _ _ h => h, fun f F c o hF _ _ => by cases hF⟩
theorem stG_nf (e : TypeId) : NF (stG e) := fun c o f hc hf => by
  obtain ⟨F, hF⟩ := (stG_low e).wf.famk c o f hc hf
  cases hF
theorem r_sidx {P : Program} {ρ : Rho} {st : St} {t : TypeId} {x y : Operand} {s : List UInt8} {i k : Nat} {kk : IntKind} {c : UInt8} (ht : und P t = some .string) (hx : ρ x = some (.str s)) (hy : ρ y = some (.int kk (i : Int))) (h : s[i]? = some c) (hc : c.toNat = k) : aopR P ρ st (.index t x y) = some (.int .u8 (k : Int), st) := by
  have hy' : ρ y = some (.int kk (.ofNat i)) := hy
  simp only [aopR, hx, hy', bnd_some, oIndex, ht, nth_eq, h, hc]
  rfl
theorem addB {a b : Nat} (h : a + b < 256) : intBin .add .u8 (a : Int) (b : Int) = some (.int .u8 ((a + b : Nat) : Int)) := by
  have : wrapF .u8 (Int.add a b) = ((a + b : Nat) : Int) := by
    rw [wrapF_eq]
    show IntKind.wrap .u8 ((a : Int) + b) = _
    rw [IntWalk.u8_in _ (by omega)]; omega
  simp only [intBin, this]
theorem subB {a b c : Nat} (h : b + c = a) (ha : a < 256) : intBin .sub .u8 (a : Int) (b : Int) = some (.int .u8 (c : Int)) := by
  have : wrapF .u8 (Int.sub a b) = (c : Int) := by
    rw [wrapF_eq]
    show IntKind.wrap .u8 ((a : Int) - b) = _
    rw [IntWalk.u8_in _ (by omega)]; omega
  simp only [intBin, this]
theorem sub_nat' {a b c : Nat} (h : b + c = a) (ha : a < 9223372036854775808) : intBin .sub .i64 (a : Int) (b : Int) = some (.int .i64 (c : Int)) := by
  have : wrapF .i64 (Int.sub a b) = (c : Int) := by
    rw [wrapF_eq]
    show IntKind.wrap .i64 ((a : Int) - b) = _
    rw [IntWalk.i64_in _ (by omega)]; omega
  simp only [intBin, this]
theorem un21 : und Tryz.prog 21 = some (.int .i32) := by kernel_rfl
theorem ieqb_self (n : Int) : ieqb n n = true := by rw [ieqb_eq]; simp
theorem eqL_same (s : List UInt8) : eqL s s = true := eqL_self s
theorem ieqb_f {a b : Int} (h : a ≠ b) : ieqb a b = false := by rw [ieqb_eq]; simp [h]

/-! The plain law -/
/-- A number out of its places, the first place first; places count from 1. -/
def valA (k : Nat) : Nat → List Nat → Nat
  | v, [] => v
  | v, p :: r => valA k (v * k + p + 1) r
theorem valA_le {k : Nat} (hk : 1 ≤ k) : ∀ (r : List Nat) (v : Nat), v ≤ valA k v r
  | [], v => Nat.le_refl v
  | p :: r, v => by
    have := valA_le hk r (v * k + p + 1)
    have : v * 1 ≤ v * k := Nat.mul_le_mul_left v hk
    rw [valA]; omega
theorem valA_snoc (k : Nat) (p : Nat) : ∀ (r : List Nat) (v : Nat), valA k v (r ++ [p]) = valA k v r * k + p + 1
  | [], v => rfl
  | q :: r, v => by rw [List.cons_append, valA, valA_snoc k p r, valA]
theorem valA_posA {k : Nat} (hk : 2 ≤ k) : ∀ (f n : Nat), n < 2 ^ f → valA k 0 (posA k f n).reverse = n
  | 0, n, h => by
    have : n < 1 := h
    show 0 = n
    omega
  | f + 1, n, h => by
    rw [posA]
    split
    · rename_i h0
      have hq : (n - 1) / k < 2 ^ f := by
        have : (n - 1) / k ≤ (n - 1) / 2 := Nat.div_le_div_left hk (by decide)
        rw [Nat.pow_succ] at h
        omega
      rw [List.reverse_cons, valA_snoc, valA_posA hk f _ hq]
      have := Nat.div_add_mod (n - 1) k
      rw [Nat.mul_comm] at this
      omega
    · show 0 = n
      omega
/-- The place's letter. -/
def letB (B p : Nat) : UInt8 := UInt8.ofNat (B + p)
theorem letB_nat {B p : Nat} (h : B + p < 256) : (letB B p).toNat = B + p := by
  show (UInt8.ofNat (B + p)).toNat = _
  rw [UInt8.toNat_ofNat']
  exact Nat.mod_eq_of_lt h
theorem pick_let {syms : List (List UInt8)} {B : Nat} (hs : ∀ p, p < 26 → syms.getD p [] = [letB B p]) : ∀ (l : List Nat), (∀ p ∈ l, p < 26) → (l.map fun p => syms.getD p []).flatten = l.map (letB B)
  | [], _ => rfl
  | p :: l, h => by
    rw [List.map_cons, List.flatten_cons, hs p (h p (by simp)), pick_let hs l fun q hq => h q (by simp [hq])]
    rfl
theorem low_get : ∀ p, p < 26 → lowS.getD p [] = [letB 97 p] := by decide
theorem upp_get : ∀ p, p < 26 → uppS.getD p [] = [letB 65 p] := by decide
/-- A Greek place's number. -/
def grkI (p : Nat) : Nat := if p < 17 then p else p + 1
def grkP (l : List Nat) : List UInt8 := (l.map fun p => grkS.getD p []).flatten
theorem grk_two : ∀ p, p < 24 → ∃ b0 b1 : UInt8, grkS.getD p [] = [b0, b1] ∧ Nat.blt b0.toNat 128 = false ∧ Nat.beq (b0.toNat / 32) 6 = true ∧ dec2 b0.toNat b1.toNat = (945 + grkI p, 2) := by
  intro p hp
  have key : ∀ q, q < 24 → ((grkS.getD q []).length == 2 && !Nat.blt ((grkS.getD q []).getD 0 0).toNat 128 && Nat.beq (((grkS.getD q []).getD 0 0).toNat / 32) 6 && (Nat.beq (dec2 ((grkS.getD q []).getD 0 0).toNat ((grkS.getD q []).getD 1 0).toNat).1 (945 + grkI q) && Nat.beq (dec2 ((grkS.getD q []).getD 0 0).toNat ((grkS.getD q []).getD 1 0).toNat).2 2)) = true := by
    intro q hq
    have : (List.range 24).all (fun q => (grkS.getD q []).length == 2 && !Nat.blt ((grkS.getD q []).getD 0 0).toNat 128 && Nat.beq (((grkS.getD q []).getD 0 0).toNat / 32) 6 && (Nat.beq (dec2 ((grkS.getD q []).getD 0 0).toNat ((grkS.getD q []).getD 1 0).toNat).1 (945 + grkI q) && Nat.beq (dec2 ((grkS.getD q []).getD 0 0).toNat ((grkS.getD q []).getD 1 0).toNat).2 2)) = true := by kernel_rfl
    exact List.all_eq_true.1 this q (List.mem_range.2 hq)
  have h := key p hp
  simp only [Bool.and_eq_true, Bool.not_eq_true', beq_iff_eq] at h
  obtain ⟨⟨⟨h1, h2⟩, h3⟩, h4, h5⟩ := h
  match hx : grkS.getD p [], h1 with
  | [b0, b1], _ =>
    rw [hx] at h2 h3 h4 h5
    exact ⟨b0, b1, rfl, h2, h3, Prod.ext (AE.beq_true.1 h4) (AE.beq_true.1 h5)⟩
theorem grk_dec {p : Nat} (hp : p < 24) (rest : List UInt8) : dec8 (grkS.getD p [] ++ rest) = (945 + grkI p, 2) ∧ (grkS.getD p [] ++ rest).drop 2 = rest ∧ grkS.getD p [] ++ rest ≠ [] := by
  obtain ⟨b0, b1, h1, h2, h3, h4⟩ := grk_two p hp
  rw [h1]
  refine ⟨?_, rfl, by simp⟩
  show cnd (Nat.blt b0.toNat 128) _ (decR b0.toNat (b1 :: rest)) = _
  rw [h2, cnd_false]
  match rest with
  | [] => simp only [decR, h3, cnd_true, h4]
  | [c] => simp only [decR, h3, cnd_true, h4]
  | c :: d :: r => simp only [decR, h3, cnd_true, h4]
/-- fleuron/fleuronlaw11.RegistryLetters -/
def c13 : SC := (.seq (.region [⟨.assign (.const (.bool false)), some 4, none⟩])
  (.seq (.seq (.region [⟨.move (.tmp 0), some 16, none⟩, ⟨.binOp .lss 3 (.tmp 16) (.const (.int .i64 (-100))) 3, some 17, none⟩, ⟨.move (.tmp 17), some 18, none⟩, ⟨.move (.tmp 0), some 19, some (18, false)⟩, ⟨.binOp .gtr 3 (.tmp 19) (.const (.int .i64 2147483647)) 3, some 20, some (18, false)⟩, ⟨.pick (.tmp 18) (.const (.bool true)) (.tmp 20), some 21, none⟩])
  (.cond (.tmp 21) (.seq (.region [⟨.call ⟨.value (.func 27), #[], #[]⟩, some 22, none⟩, ⟨.assign (.tmp 22), some 4, none⟩])
  .ret) .skip))
  (.seq (.region [⟨.call ⟨.value (.func 19), #[(.const (.slice none 0 0))], #[66]⟩, some 23, none⟩, ⟨.assign (.tmp 23), some 5, none⟩])
  (.seq (.seq (.region [⟨.move (.tmp 5), some 24, none⟩, ⟨.binOp .eql 36 (.tmp 24) (.const (.pointer none)) 36, some 25, none⟩])
  (.cond (.tmp 25) (.seq (.region [⟨.assign (.const (.bool false)), some 4, none⟩])
  .ret) .skip))
  (.seq (.region [⟨.assign (.const (.string ⟨#[108, 111, 119, 101, 114, 45, 97, 108, 112, 104, 97]⟩)), some 6, none⟩, ⟨.assign (.const (.int .u8 97)), some 7, none⟩])
  (.seq (.seq (.region [⟨.move (.tmp 1), some 26, none⟩])
  (.cond (.tmp 26) (.region [⟨.assign (.const (.string ⟨#[117, 112, 112, 101, 114, 45, 97, 108, 112, 104, 97]⟩)), some 6, none⟩, ⟨.assign (.const (.int .u8 65)), some 7, none⟩]) .skip))
  (.seq (.region [⟨.move (.tmp 5), some 27, none⟩, ⟨.move (.tmp 6), some 28, none⟩, ⟨.move (.tmp 0), some 29, none⟩, ⟨.call ⟨.value (.func 23), #[(.tmp 27), (.tmp 28), (.tmp 29)], #[36, 9, 3]⟩, some 30, none⟩, ⟨.assign (.tmp 30), some 8, none⟩])
  (.seq (.region [⟨.move (.tmp 5), some 31, none⟩, ⟨.move (.tmp 0), some 32, none⟩, ⟨.call ⟨.value (.func 23), #[(.tmp 31), (.const (.string ⟨#[108, 111, 119, 101, 114, 45, 103, 114, 101, 101, 107]⟩)), (.tmp 32)], #[36, 9, 3]⟩, some 33, none⟩, ⟨.assign (.tmp 33), some 9, none⟩])
  (.seq (.seq (.region [⟨.move (.tmp 0), some 34, none⟩, ⟨.binOp .lss 3 (.tmp 34) (.const (.int .i64 1)) 3, some 35, none⟩])
  (.cond (.tmp 35) (.seq (.region [⟨.move (.tmp 8), some 36, none⟩, ⟨.move (.tmp 0), some 37, none⟩, ⟨.call ⟨.value (.func 25), #[(.tmp 37)], #[3]⟩, some 38, none⟩, ⟨.binOp .eql 9 (.tmp 36) (.tmp 38) 9, some 39, none⟩, ⟨.move (.tmp 39), some 40, none⟩, ⟨.move (.tmp 9), some 41, some (40, true)⟩, ⟨.move (.tmp 8), some 42, some (40, true)⟩, ⟨.binOp .eql 9 (.tmp 41) (.tmp 42) 9, some 43, some (40, true)⟩, ⟨.pick (.tmp 40) (.tmp 43) (.const (.bool false)), some 44, none⟩, ⟨.move (.tmp 44), some 45, none⟩, ⟨.call ⟨.value (.func 27), #[], #[]⟩, some 46, some (45, true)⟩, ⟨.pick (.tmp 45) (.tmp 46) (.const (.bool false)), some 47, none⟩, ⟨.assign (.tmp 47), some 4, none⟩])
  .ret) .skip))
  (.seq (.region [⟨.assign (.const (.int .i64 0)), some 10, none⟩])
  (.seq (.seq (.region [⟨.assign (.const (.int .i64 0)), some 11, none⟩])
  (.block 0 (.loop (.seq (.seq (.region [⟨.move (.tmp 11), some 48, none⟩, ⟨.move (.tmp 8), some 49, none⟩, ⟨.call ⟨.builtin .len, #[(.tmp 49)], #[9]⟩, some 50, none⟩, ⟨.binOp .lss 3 (.tmp 48) (.tmp 50) 3, some 51, none⟩])
  (.cond (.tmp 51) .skip (.exit 0)))
  (.seq (.block 1 (.seq (.seq (.region [⟨.move (.tmp 8), some 54, none⟩, ⟨.move (.tmp 11), some 55, none⟩, ⟨.index 9 (.tmp 54) (.tmp 55), some 56, none⟩, ⟨.move (.tmp 7), some 57, none⟩, ⟨.binOp .lss 5 (.tmp 56) (.tmp 57) 5, some 58, none⟩, ⟨.move (.tmp 58), some 59, none⟩, ⟨.move (.tmp 8), some 60, some (59, false)⟩, ⟨.move (.tmp 11), some 61, some (59, false)⟩, ⟨.index 9 (.tmp 60) (.tmp 61), some 62, some (59, false)⟩, ⟨.move (.tmp 7), some 63, some (59, false)⟩, ⟨.binOp .add 5 (.tmp 63) (.const (.int .u8 25)) 5, some 64, some (59, false)⟩, ⟨.binOp .gtr 5 (.tmp 62) (.tmp 64) 5, some 65, some (59, false)⟩, ⟨.pick (.tmp 59) (.const (.bool true)) (.tmp 65), some 66, none⟩])
  (.cond (.tmp 66) (.seq (.region [⟨.assign (.const (.bool false)), some 4, none⟩])
  .ret) .skip))
  (.region [⟨.move (.tmp 10), some 67, none⟩, ⟨.binOp .mul 3 (.tmp 67) (.const (.int .i64 26)) 3, some 68, none⟩, ⟨.move (.tmp 8), some 69, none⟩, ⟨.move (.tmp 11), some 70, none⟩, ⟨.index 9 (.tmp 69) (.tmp 70), some 71, none⟩, ⟨.move (.tmp 7), some 72, none⟩, ⟨.binOp .sub 5 (.tmp 71) (.tmp 72) 5, some 73, none⟩, ⟨.convert 5 3 (.tmp 73), some 74, none⟩, ⟨.binOp .add 3 (.tmp 68) (.tmp 74) 3, some 75, none⟩, ⟨.binOp .add 3 (.tmp 75) (.const (.int .i64 1)) 3, some 76, none⟩, ⟨.assign (.tmp 76), some 10, none⟩])))
  (.region [⟨.move (.tmp 11), some 52, none⟩, ⟨.binOp .add 3 (.tmp 52) (.const (.int .i64 1)) 3, some 53, none⟩, ⟨.assign (.tmp 53), some 11, none⟩]))))))
  (.seq (.region [⟨.assign (.const (.int .i64 0)), some 12, none⟩])
  (.seq (.seq (.region [⟨.move (.tmp 9), some 77, none⟩, ⟨.range 9 (.tmp 77), some 78, none⟩])
  (.block 2 (.loop (.seq (.region [⟨.next (.tmp 78) true, some 79, none⟩, ⟨.extract (.tmp 79) 0, some 80, none⟩])
  (.seq (.cond (.tmp 80) .skip (.exit 2))
  (.block 3 (.seq (.region [⟨.extract (.tmp 79) 2, some 81, none⟩, ⟨.assign (.tmp 81), some 14, none⟩])
  (.seq (.region [⟨.move (.tmp 14), some 82, none⟩, ⟨.convert 21 3 (.tmp 82), some 83, none⟩, ⟨.binOp .sub 3 (.tmp 83) (.const (.int .i64 945)) 3, some 84, none⟩, ⟨.assign (.tmp 84), some 15, none⟩])
  (.seq (.seq (.region [⟨.move (.tmp 15), some 85, none⟩, ⟨.binOp .lss 3 (.tmp 85) (.const (.int .i64 0)) 3, some 86, none⟩, ⟨.move (.tmp 86), some 87, none⟩, ⟨.move (.tmp 15), some 88, some (87, false)⟩, ⟨.binOp .gtr 3 (.tmp 88) (.const (.int .i64 24)) 3, some 89, some (87, false)⟩, ⟨.pick (.tmp 87) (.const (.bool true)) (.tmp 89), some 90, none⟩, ⟨.move (.tmp 90), some 91, none⟩, ⟨.move (.tmp 15), some 92, some (91, false)⟩, ⟨.binOp .eql 3 (.tmp 92) (.const (.int .i64 17)) 3, some 93, some (91, false)⟩, ⟨.pick (.tmp 91) (.const (.bool true)) (.tmp 93), some 94, none⟩])
  (.cond (.tmp 94) (.seq (.region [⟨.assign (.const (.bool false)), some 4, none⟩])
  .ret) .skip))
  (.seq (.seq (.region [⟨.move (.tmp 15), some 95, none⟩, ⟨.binOp .gtr 3 (.tmp 95) (.const (.int .i64 17)) 3, some 96, none⟩])
  (.cond (.tmp 96) (.region [⟨.move (.tmp 15), some 97, none⟩, ⟨.binOp .sub 3 (.tmp 97) (.const (.int .i64 1)) 3, some 98, none⟩, ⟨.assign (.tmp 98), some 15, none⟩]) .skip))
  (.region [⟨.move (.tmp 12), some 99, none⟩, ⟨.binOp .mul 3 (.tmp 99) (.const (.int .i64 24)) 3, some 100, none⟩, ⟨.move (.tmp 15), some 101, none⟩, ⟨.binOp .add 3 (.tmp 100) (.tmp 101) 3, some 102, none⟩, ⟨.binOp .add 3 (.tmp 102) (.const (.int .i64 1)) 3, some 103, none⟩, ⟨.assign (.tmp 103), some 12, none⟩])))))))))))
  (.seq (.region [⟨.move (.tmp 10), some 104, none⟩, ⟨.move (.tmp 0), some 105, none⟩, ⟨.binOp .eql 3 (.tmp 104) (.tmp 105) 3, some 106, none⟩, ⟨.move (.tmp 106), some 107, none⟩, ⟨.move (.tmp 12), some 108, some (107, true)⟩, ⟨.move (.tmp 0), some 109, some (107, true)⟩, ⟨.binOp .eql 3 (.tmp 108) (.tmp 109) 3, some 110, some (107, true)⟩, ⟨.pick (.tmp 107) (.tmp 110) (.const (.bool false)), some 111, none⟩, ⟨.move (.tmp 111), some 112, none⟩, ⟨.call ⟨.value (.func 27), #[], #[]⟩, some 113, some (112, true)⟩, ⟨.pick (.tmp 112) (.tmp 113) (.const (.bool false)), some 114, none⟩, ⟨.assign (.tmp 114), some 4, none⟩])
  .ret))))))))))))))
theorem c13_of : SC.of Tryz.f13.body.get! = c13 := by kernel_rfl
theorem body13 : Tryz.f13.body = some (Tryz.f13.body.get!) := by kernel_rfl
theorem nt13 : Tryz.f13.ntmps = 115 := by kernel_rfl
theorem res13 : Tryz.f13.results.toList = [.tmp 4] := by kernel_rfl
def c13l1 : SC := (.loop (.seq (.seq (.region [⟨.move (.tmp 11), some 48, none⟩, ⟨.move (.tmp 8), some 49, none⟩, ⟨.call ⟨.builtin .len, #[(.tmp 49)], #[9]⟩, some 50, none⟩, ⟨.binOp .lss 3 (.tmp 48) (.tmp 50) 3, some 51, none⟩])
  (.cond (.tmp 51) .skip (.exit 0)))
  (.seq (.block 1 (.seq (.seq (.region [⟨.move (.tmp 8), some 54, none⟩, ⟨.move (.tmp 11), some 55, none⟩, ⟨.index 9 (.tmp 54) (.tmp 55), some 56, none⟩, ⟨.move (.tmp 7), some 57, none⟩, ⟨.binOp .lss 5 (.tmp 56) (.tmp 57) 5, some 58, none⟩, ⟨.move (.tmp 58), some 59, none⟩, ⟨.move (.tmp 8), some 60, some (59, false)⟩, ⟨.move (.tmp 11), some 61, some (59, false)⟩, ⟨.index 9 (.tmp 60) (.tmp 61), some 62, some (59, false)⟩, ⟨.move (.tmp 7), some 63, some (59, false)⟩, ⟨.binOp .add 5 (.tmp 63) (.const (.int .u8 25)) 5, some 64, some (59, false)⟩, ⟨.binOp .gtr 5 (.tmp 62) (.tmp 64) 5, some 65, some (59, false)⟩, ⟨.pick (.tmp 59) (.const (.bool true)) (.tmp 65), some 66, none⟩])
  (.cond (.tmp 66) (.seq (.region [⟨.assign (.const (.bool false)), some 4, none⟩])
  .ret) .skip))
  (.region [⟨.move (.tmp 10), some 67, none⟩, ⟨.binOp .mul 3 (.tmp 67) (.const (.int .i64 26)) 3, some 68, none⟩, ⟨.move (.tmp 8), some 69, none⟩, ⟨.move (.tmp 11), some 70, none⟩, ⟨.index 9 (.tmp 69) (.tmp 70), some 71, none⟩, ⟨.move (.tmp 7), some 72, none⟩, ⟨.binOp .sub 5 (.tmp 71) (.tmp 72) 5, some 73, none⟩, ⟨.convert 5 3 (.tmp 73), some 74, none⟩, ⟨.binOp .add 3 (.tmp 68) (.tmp 74) 3, some 75, none⟩, ⟨.binOp .add 3 (.tmp 75) (.const (.int .i64 1)) 3, some 76, none⟩, ⟨.assign (.tmp 76), some 10, none⟩])))
  (.region [⟨.move (.tmp 11), some 52, none⟩, ⟨.binOp .add 3 (.tmp 52) (.const (.int .i64 1)) 3, some 53, none⟩, ⟨.assign (.tmp 53), some 11, none⟩]))))
def c13l2 : SC := (.loop (.seq (.region [⟨.next (.tmp 78) true, some 79, none⟩, ⟨.extract (.tmp 79) 0, some 80, none⟩])
  (.seq (.cond (.tmp 80) .skip (.exit 2))
  (.block 3 (.seq (.region [⟨.extract (.tmp 79) 2, some 81, none⟩, ⟨.assign (.tmp 81), some 14, none⟩])
  (.seq (.region [⟨.move (.tmp 14), some 82, none⟩, ⟨.convert 21 3 (.tmp 82), some 83, none⟩, ⟨.binOp .sub 3 (.tmp 83) (.const (.int .i64 945)) 3, some 84, none⟩, ⟨.assign (.tmp 84), some 15, none⟩])
  (.seq (.seq (.region [⟨.move (.tmp 15), some 85, none⟩, ⟨.binOp .lss 3 (.tmp 85) (.const (.int .i64 0)) 3, some 86, none⟩, ⟨.move (.tmp 86), some 87, none⟩, ⟨.move (.tmp 15), some 88, some (87, false)⟩, ⟨.binOp .gtr 3 (.tmp 88) (.const (.int .i64 24)) 3, some 89, some (87, false)⟩, ⟨.pick (.tmp 87) (.const (.bool true)) (.tmp 89), some 90, none⟩, ⟨.move (.tmp 90), some 91, none⟩, ⟨.move (.tmp 15), some 92, some (91, false)⟩, ⟨.binOp .eql 3 (.tmp 92) (.const (.int .i64 17)) 3, some 93, some (91, false)⟩, ⟨.pick (.tmp 91) (.const (.bool true)) (.tmp 93), some 94, none⟩])
  (.cond (.tmp 94) (.seq (.region [⟨.assign (.const (.bool false)), some 4, none⟩])
  .ret) .skip))
  (.seq (.seq (.region [⟨.move (.tmp 15), some 95, none⟩, ⟨.binOp .gtr 3 (.tmp 95) (.const (.int .i64 17)) 3, some 96, none⟩])
  (.cond (.tmp 96) (.region [⟨.move (.tmp 15), some 97, none⟩, ⟨.binOp .sub 3 (.tmp 97) (.const (.int .i64 1)) 3, some 98, none⟩, ⟨.assign (.tmp 98), some 15, none⟩]) .skip))
  (.region [⟨.move (.tmp 12), some 99, none⟩, ⟨.binOp .mul 3 (.tmp 99) (.const (.int .i64 24)) 3, some 100, none⟩, ⟨.move (.tmp 15), some 101, none⟩, ⟨.binOp .add 3 (.tmp 100) (.tmp 101) 3, some 102, none⟩, ⟨.binOp .add 3 (.tmp 102) (.const (.int .i64 1)) 3, some 103, none⟩, ⟨.assign (.tmp 103), some 12, none⟩])))))))))
theorem let_loop {B N : Nat} {g s : List UInt8} {n : Int} (hB : B + 26 ≤ 255) {ds : List Nat} (hds : ∀ p ∈ ds, p < 26) (hlen : ds.length < 1000000) (hN : N < 2147483648) (hse : s = ds.map (letB B)) {st : St} {ks : List Kont} {Q : Post3} : ∀ (r pre : List Nat) (v : Nat), pre ++ r = ds → valA 26 v r = N →
    ∀ env, lookE 0 env = some (.int .i64 n) → lookE 7 env = some (.int .u8 (B : Int)) → lookE 8 env = some (.str s) → lookE 9 env = some (.str g) → lookE 10 env = some (.int .i64 (v : Int)) → lookE 11 env = some (.int .i64 (pre.length : Int)) →
    (∀ env', lookE 0 env' = some (.int .i64 n) → lookE 9 env' = some (.str g) → lookE 10 env' = some (.int .i64 (N : Int)) → after (CS sum) 115 none ks Q .normal env' st) →
    WK (CS sum) 115 none c13l1 (.block 0 :: ks) env st Q := by
  intro r
  induction r with
  | nil =>
    intro pre v hpre hv env h0 h7 h8 h9 h10 h11 hfin
    have hsl : s.length = pre.length := by rw [hse, List.length_map, ← hpre]; simp
    refine WK.sub [(0, .int .i64 n), (7, .int .u8 (B : Int)), (8, .str s), (9, .str g), (10, .int .i64 (v : Int)), (11, .int .i64 (pre.length : Int))] ?_ ?_
    · intro t v ht
      simp only [lookE_cons] at ht
      by_cases e0 : t = 0
      · rw [if_pos e0] at ht; subst e0; rw [h0]; exact ht
      rw [if_neg e0] at ht
      by_cases e7 : t = 7
      · rw [if_pos e7] at ht; subst e7; rw [h7]; exact ht
      rw [if_neg e7] at ht
      by_cases e8 : t = 8
      · rw [if_pos e8] at ht; subst e8; rw [h8]; exact ht
      rw [if_neg e8] at ht
      by_cases e9 : t = 9
      · rw [if_pos e9] at ht; subst e9; rw [h9]; exact ht
      rw [if_neg e9] at ht
      by_cases e10 : t = 10
      · rw [if_pos e10] at ht; subst e10; rw [h10]; exact ht
      rw [if_neg e10] at ht
      by_cases e11 : t = 11
      · rw [if_pos e11] at ht; subst e11; rw [h11]; exact ht
      rw [if_neg e11] at ht
      cases ht
    unfold c13l1
    refine WK.loop ?_
    refine WK.seq ?_
    refine WK.seq ?_
    refine WK.region ?_
    refine WR.op rfl rfl rfl rfl ?_
    refine WR.op rfl rfl rfl rfl ?_
    refine WR.op rfl rfl (r_len_str Tryz.underlying9 rfl) rfl ?_
    refine WR.op rfl rfl (r_lss rfl rfl (iltb_f (by omega))) rfl ?_
    refine WR.nil ?_
    refine after.seq ?_
    refine WK.cond rfl (fun h => (by cases h)) (fun _ => ?_)
    refine WK.exit ?_
    refine after.seq_exit ?_
    refine after.seq_exit ?_
    refine after.exit ?_
    exact hfin _ rfl rfl (by show some (AV.int .i64 (v : Int)) = _; rw [show v = N from hv])
  | cons p r ih =>
    intro pre v hpre hv env h0 h7 h8 h9 h10 h11 hfin
    have hp : p < 26 := hds p (by rw [← hpre]; simp)
    have hsl : s.length = pre.length + (r.length + 1) := by rw [hse, List.length_map, ← hpre]; simp
    have hdl : ds.length = pre.length + (r.length + 1) := by rw [← hpre]; simp
    have hget : s[pre.length]? = some (letB B p) := by rw [hse, List.getElem?_map, ← hpre]; simp
    have hc : (letB B p).toNat = B + p := letB_nat (by omega)
    have hvl : v * 26 + p + 1 ≤ N := by rw [← hv]; exact valA_le (by decide) r _
    refine WK.sub [(0, .int .i64 n), (7, .int .u8 (B : Int)), (8, .str s), (9, .str g), (10, .int .i64 (v : Int)), (11, .int .i64 (pre.length : Int))] ?_ ?_
    · intro t v ht
      simp only [lookE_cons] at ht
      by_cases e0 : t = 0
      · rw [if_pos e0] at ht; subst e0; rw [h0]; exact ht
      rw [if_neg e0] at ht
      by_cases e7 : t = 7
      · rw [if_pos e7] at ht; subst e7; rw [h7]; exact ht
      rw [if_neg e7] at ht
      by_cases e8 : t = 8
      · rw [if_pos e8] at ht; subst e8; rw [h8]; exact ht
      rw [if_neg e8] at ht
      by_cases e9 : t = 9
      · rw [if_pos e9] at ht; subst e9; rw [h9]; exact ht
      rw [if_neg e9] at ht
      by_cases e10 : t = 10
      · rw [if_pos e10] at ht; subst e10; rw [h10]; exact ht
      rw [if_neg e10] at ht
      by_cases e11 : t = 11
      · rw [if_pos e11] at ht; subst e11; rw [h11]; exact ht
      rw [if_neg e11] at ht
      cases ht
    unfold c13l1
    refine WK.loop ?_
    refine WK.seq ?_
    refine WK.seq ?_
    refine WK.region ?_
    refine WR.op rfl rfl rfl rfl ?_
    refine WR.op rfl rfl rfl rfl ?_
    refine WR.op rfl rfl (r_len_str Tryz.underlying9 rfl) rfl ?_
    refine WR.op rfl rfl (r_lss rfl rfl (iltb_t (by omega))) rfl ?_
    refine WR.nil ?_
    refine after.seq ?_
    refine WK.cond rfl (fun _ => ?_) (fun h => (by cases h))
    refine WK.skip ?_
    refine after.seq ?_
    refine WK.seq ?_
    refine WK.block ?_
    refine WK.seq ?_
    refine WK.seq ?_
    refine WK.region ?_
    refine WR.op rfl rfl rfl rfl ?_
    refine WR.op rfl rfl rfl rfl ?_
    refine WR.op rfl rfl (r_sidx Tryz.underlying9 rfl rfl hget hc) rfl ?_
    refine WR.op rfl rfl rfl rfl ?_
    refine WR.op rfl rfl (r_lss rfl rfl (iltb_f (by omega))) rfl ?_
    refine WR.op rfl rfl rfl rfl ?_
    refine WR.opG rfl rfl rfl rfl rfl ?_
    refine WR.opG rfl rfl rfl rfl rfl ?_
    refine WR.opG rfl rfl rfl (r_sidx Tryz.underlying9 rfl rfl hget hc) rfl ?_
    refine WR.opG rfl rfl rfl rfl rfl ?_
    refine WR.opG rfl rfl rfl (r_arith ⟨by decide, by decide⟩ rfl rfl (addB (b := 25) (by omega))) rfl ?_
    refine WR.opG rfl rfl rfl (r_gtr rfl rfl (iltb_f (by omega))) rfl ?_
    refine WR.op rfl rfl rfl rfl ?_
    refine WR.nil ?_
    refine after.seq ?_
    refine WK.cond rfl (fun h => (by cases h)) (fun _ => ?_)
    refine WK.skip ?_
    refine after.seq ?_
    refine WK.region ?_
    refine WR.op rfl rfl rfl rfl ?_
    refine WR.op rfl rfl (r_arith ⟨by decide, by decide⟩ rfl rfl (mul_nat (b := 26) (by omega))) rfl ?_
    refine WR.op rfl rfl rfl rfl ?_
    refine WR.op rfl rfl rfl rfl ?_
    refine WR.op rfl rfl (r_sidx Tryz.underlying9 rfl rfl hget hc) rfl ?_
    refine WR.op rfl rfl rfl rfl ?_
    refine WR.op rfl rfl (r_arith ⟨by decide, by decide⟩ rfl rfl (subB (c := p) rfl (by omega))) rfl ?_
    refine WR.op rfl rfl (r_convI (m := (p : Int)) un5 un3 rfl (by rw [wrapF_eq]; exact IntWalk.i64_in _ (by omega))) rfl ?_
    refine WR.op rfl rfl (r_arith ⟨by decide, by decide⟩ rfl rfl (add_nat (by omega))) rfl ?_
    refine WR.op rfl rfl (r_arith ⟨by decide, by decide⟩ rfl rfl (add_nat (b := 1) (by omega))) rfl ?_
    refine WR.op rfl rfl rfl rfl ?_
    refine WR.nil ?_
    refine after.block ?_
    refine after.seq ?_
    refine WK.region ?_
    refine WR.op rfl rfl rfl rfl ?_
    refine WR.op rfl rfl (r_arith ⟨by decide, by decide⟩ rfl rfl (add_nat (b := 1) (by omega))) rfl ?_
    refine WR.op rfl rfl rfl rfl ?_
    refine WR.nil ?_
    refine after.seq ?_
    exact ih (pre ++ [p]) (v * 26 + p + 1) (by rw [← hpre]; simp) hv _ rfl rfl rfl rfl rfl (by rw [List.length_append]; rfl) hfin
theorem grk_loop {N M : Nat} {n : Int} {b : Nat} (hN : N < 2147483648) {st : St} (hb : st.next ≤ b) {ks : List Kont} {Q : Post3} : ∀ (r : List Nat), (∀ p ∈ r, p < 24) → ∀ (v : Nat) (pos : Nat) (st1 : St), valA 24 v r = N → pos + r.length * 2 ≤ 1000000 → st1.heap.get b = some (.siter (grkP r) pos) → Ext st st1 →
    ∀ env, lookE 0 env = some (.int .i64 n) → lookE 10 env = some (.int .i64 (M : Int)) → lookE 12 env = some (.int .i64 (v : Int)) → lookE 78 env = some (.ptr b 0) →
    (∀ env' st2, Ext st st2 → lookE 0 env' = some (.int .i64 n) → lookE 10 env' = some (.int .i64 (M : Int)) → lookE 12 env' = some (.int .i64 (N : Int)) → after (CS sum) 115 none ks Q .normal env' st2) →
    WK (CS sum) 115 none c13l2 (.block 2 :: ks) env st1 Q := by
  intro r
  induction r with
  | nil =>
    intro _ v pos st1 hv hpos hget hext env h0 h10 h12 h78 hfin
    refine WK.sub [(0, .int .i64 n), (10, .int .i64 (M : Int)), (12, .int .i64 (v : Int)), (78, .ptr b 0)] ?_ ?_
    · intro t v ht
      simp only [lookE_cons] at ht
      by_cases e0 : t = 0
      · rw [if_pos e0] at ht; subst e0; rw [h0]; exact ht
      rw [if_neg e0] at ht
      by_cases e10 : t = 10
      · rw [if_pos e10] at ht; subst e10; rw [h10]; exact ht
      rw [if_neg e10] at ht
      by_cases e12 : t = 12
      · rw [if_pos e12] at ht; subst e12; rw [h12]; exact ht
      rw [if_neg e12] at ht
      by_cases e78 : t = 78
      · rw [if_pos e78] at ht; subst e78; rw [h78]; exact ht
      rw [if_neg e78] at ht
      cases ht
    unfold c13l2
    refine WK.loop ?_
    refine WK.seq ?_
    refine WK.region ?_
    refine WR.op rfl rfl (r_next_end rfl hget) rfl ?_
    refine WR.op rfl rfl rfl rfl ?_
    refine WR.nil ?_
    refine after.seq ?_
    refine WK.seq ?_
    refine WK.cond rfl (fun h => (by cases h)) (fun _ => ?_)
    refine WK.exit ?_
    refine after.seq_exit ?_
    refine after.seq_exit ?_
    refine after.exit ?_
    exact hfin _ _ hext rfl rfl (by show some (AV.int .i64 (v : Int)) = _; rw [show v = N from hv])
  | cons p r ih =>
    intro hr v pos st1 hv hpos hget hext env h0 h10 h12 h78 hfin
    have hp : p < 24 := hr p (by simp)
    obtain ⟨hd1, hd2, hd3⟩ := grk_dec hp (grkP r)
    have hcons : grkP (p :: r) = grkS.getD p [] ++ grkP r := by unfold grkP; rw [List.map_cons, List.flatten_cons]
    rw [hcons] at hget
    have hvl : v * 24 + p + 1 ≤ N := by rw [← hv]; exact valA_le (by decide) r _
    have hpos' : pos + 2 + r.length * 2 ≤ 1000000 := by rw [List.length_cons] at hpos; omega
    refine WK.sub [(0, .int .i64 n), (10, .int .i64 (M : Int)), (12, .int .i64 (v : Int)), (78, .ptr b 0)] ?_ ?_
    · intro t v ht
      simp only [lookE_cons] at ht
      by_cases e0 : t = 0
      · rw [if_pos e0] at ht; subst e0; rw [h0]; exact ht
      rw [if_neg e0] at ht
      by_cases e10 : t = 10
      · rw [if_pos e10] at ht; subst e10; rw [h10]; exact ht
      rw [if_neg e10] at ht
      by_cases e12 : t = 12
      · rw [if_pos e12] at ht; subst e12; rw [h12]; exact ht
      rw [if_neg e12] at ht
      by_cases e78 : t = 78
      · rw [if_pos e78] at ht; subst e78; rw [h78]; exact ht
      rw [if_neg e78] at ht
      cases ht
    unfold c13l2
    refine WK.loop ?_
    by_cases h17 : p < 17
    · have hgi : grkI p = p := if_pos h17
      refine WK.seq ?_
      refine WK.region ?_
      refine WR.op rfl rfl (r_nextD hd3 rfl hget hd1 hd2) rfl ?_
      refine WR.op rfl rfl rfl rfl ?_
      refine WR.nil ?_
      refine after.seq ?_
      refine WK.seq ?_
      refine WK.cond rfl (fun _ => ?_) (fun h => (by cases h))
      refine WK.skip ?_
      refine after.seq ?_
      refine WK.block ?_
      refine WK.seq ?_
      refine WK.region ?_
      refine WR.op rfl rfl rfl rfl ?_
      refine WR.op rfl rfl rfl rfl ?_
      refine WR.nil ?_
      refine after.seq ?_
      refine WK.seq ?_
      refine WK.region ?_
      refine WR.op rfl rfl rfl rfl ?_
      refine WR.op rfl rfl (r_convI (m := ((945 + grkI p : Nat) : Int)) un21 un3 rfl (by rw [wrapF_eq]; exact IntWalk.i64_in _ (by omega))) rfl ?_
      refine WR.op rfl rfl (r_arith ⟨by decide, by decide⟩ rfl rfl (sub_nat' (b := 945) (c := grkI p) rfl (by omega))) rfl ?_
      refine WR.op rfl rfl rfl rfl ?_
      refine WR.nil ?_
      refine after.seq ?_
      refine WK.seq ?_
      refine WK.seq ?_
      refine WK.region ?_
      refine WR.op rfl rfl rfl rfl ?_
      refine WR.op rfl rfl (r_lss rfl rfl (iltb_f (by omega))) rfl ?_
      refine WR.op rfl rfl rfl rfl ?_
      refine WR.opG rfl rfl rfl rfl rfl ?_
      refine WR.opG rfl rfl rfl (r_gtr rfl rfl (iltb_f (by omega))) rfl ?_
      refine WR.op rfl rfl rfl rfl ?_
      refine WR.op rfl rfl rfl rfl ?_
      refine WR.opG rfl rfl rfl rfl rfl ?_
      refine WR.opG rfl rfl rfl (r_eql rfl rfl (q := false) (ieqb_f (by omega))) rfl ?_
      refine WR.op rfl rfl rfl rfl ?_
      refine WR.nil ?_
      refine after.seq ?_
      refine WK.cond rfl (fun h => (by cases h)) (fun _ => ?_)
      refine WK.skip ?_
      refine after.seq ?_
      refine WK.seq ?_
      refine WK.seq ?_
      refine WK.region ?_
      refine WR.op rfl rfl rfl rfl ?_
      refine WR.op rfl rfl (r_gtr rfl rfl (iltb_f (by omega))) rfl ?_
      refine WR.nil ?_
      refine after.seq ?_
      refine WK.cond rfl (fun h => (by cases h)) (fun _ => ?_)
      refine WK.skip ?_
      refine after.seq ?_
      refine WK.region ?_
      refine WR.op rfl rfl rfl rfl ?_
      refine WR.op rfl rfl (r_arith ⟨by decide, by decide⟩ rfl rfl (mul_nat (b := 24) (by omega))) rfl ?_
      refine WR.op rfl rfl rfl rfl ?_
      refine WR.op rfl rfl (r_arith ⟨by decide, by decide⟩ rfl rfl (add_nat (by omega))) rfl ?_
      refine WR.op rfl rfl (r_arith ⟨by decide, by decide⟩ rfl rfl (add_nat (b := 1) (by omega))) rfl ?_
      refine WR.op rfl rfl rfl rfl ?_
      refine WR.nil ?_
      refine after.block ?_
      refine after.seq ?_
      exact ih (fun q hq => hr q (by simp [hq])) (v * 24 + p + 1) (pos + 2) _ hv hpos' (by rw [set_get, if_pos rfl]) (hext.set hb _) _ rfl rfl (by show some (AV.int .i64 ((v * 24 + grkI p + 1 : Nat) : Int)) = _; rw [hgi]) rfl hfin
    · have hgi : grkI p = p + 1 := if_neg h17
      refine WK.seq ?_
      refine WK.region ?_
      refine WR.op rfl rfl (r_nextD hd3 rfl hget hd1 hd2) rfl ?_
      refine WR.op rfl rfl rfl rfl ?_
      refine WR.nil ?_
      refine after.seq ?_
      refine WK.seq ?_
      refine WK.cond rfl (fun _ => ?_) (fun h => (by cases h))
      refine WK.skip ?_
      refine after.seq ?_
      refine WK.block ?_
      refine WK.seq ?_
      refine WK.region ?_
      refine WR.op rfl rfl rfl rfl ?_
      refine WR.op rfl rfl rfl rfl ?_
      refine WR.nil ?_
      refine after.seq ?_
      refine WK.seq ?_
      refine WK.region ?_
      refine WR.op rfl rfl rfl rfl ?_
      refine WR.op rfl rfl (r_convI (m := ((945 + grkI p : Nat) : Int)) un21 un3 rfl (by rw [wrapF_eq]; exact IntWalk.i64_in _ (by omega))) rfl ?_
      refine WR.op rfl rfl (r_arith ⟨by decide, by decide⟩ rfl rfl (sub_nat' (b := 945) (c := grkI p) rfl (by omega))) rfl ?_
      refine WR.op rfl rfl rfl rfl ?_
      refine WR.nil ?_
      refine after.seq ?_
      refine WK.seq ?_
      refine WK.seq ?_
      refine WK.region ?_
      refine WR.op rfl rfl rfl rfl ?_
      refine WR.op rfl rfl (r_lss rfl rfl (iltb_f (by omega))) rfl ?_
      refine WR.op rfl rfl rfl rfl ?_
      refine WR.opG rfl rfl rfl rfl rfl ?_
      refine WR.opG rfl rfl rfl (r_gtr rfl rfl (iltb_f (by omega))) rfl ?_
      refine WR.op rfl rfl rfl rfl ?_
      refine WR.op rfl rfl rfl rfl ?_
      refine WR.opG rfl rfl rfl rfl rfl ?_
      refine WR.opG rfl rfl rfl (r_eql rfl rfl (q := false) (ieqb_f (by omega))) rfl ?_
      refine WR.op rfl rfl rfl rfl ?_
      refine WR.nil ?_
      refine after.seq ?_
      refine WK.cond rfl (fun h => (by cases h)) (fun _ => ?_)
      refine WK.skip ?_
      refine after.seq ?_
      refine WK.seq ?_
      refine WK.seq ?_
      refine WK.region ?_
      refine WR.op rfl rfl rfl rfl ?_
      refine WR.op rfl rfl (r_gtr rfl rfl (iltb_t (by omega))) rfl ?_
      refine WR.nil ?_
      refine after.seq ?_
      refine WK.cond rfl (fun _ => ?_) (fun h => (by cases h))
      refine WK.region ?_
      refine WR.op rfl rfl rfl rfl ?_
      refine WR.op rfl rfl (r_arith ⟨by decide, by decide⟩ rfl rfl (sub_nat' (b := 1) (c := p) (by omega) (by omega))) rfl ?_
      refine WR.op rfl rfl rfl rfl ?_
      refine WR.nil ?_
      refine after.seq ?_
      refine WK.region ?_
      refine WR.op rfl rfl rfl rfl ?_
      refine WR.op rfl rfl (r_arith ⟨by decide, by decide⟩ rfl rfl (mul_nat (b := 24) (by omega))) rfl ?_
      refine WR.op rfl rfl rfl rfl ?_
      refine WR.op rfl rfl (r_arith ⟨by decide, by decide⟩ rfl rfl (add_nat (by omega))) rfl ?_
      refine WR.op rfl rfl (r_arith ⟨by decide, by decide⟩ rfl rfl (add_nat (b := 1) (by omega))) rfl ?_
      refine WR.op rfl rfl rfl rfl ?_
      refine WR.nil ?_
      refine after.block ?_
      refine after.seq ?_
      exact ih (fun q hq => hr q (by simp [hq])) (v * 24 + p + 1) (pos + 2) _ hv hpos' (by rw [set_get, if_pos rfl]) (hext.set hb _) _ rfl rfl rfl rfl hfin
end Go.Proofs.Tz
