/- A law of the registry: the package is awake; the state it begins in. -/
import Derived.Test.YtjnahfpnehmehaaGreatDoorRegK
import Derived.Test.YtjnahfpnehmehaaGreatDoorTz5
namespace Go.Proofs.Tz
open Go Go.AE Go.RowKit Go.Proofs
set_option maxRecDepth 100000
variable {sum : FuncId → List AV → St → Option (AV × St)}
/-- The package is awake. -/
def XA (aw : FuncId) : Known := fun f xs st r => f = aw ∧ xs = [] ∧ KnowsG st ∧ r = (.bool true, st)
theorem XA_dom (aw : FuncId) : Dom (XA aw) [aw] := fun f xs st r h => by rw [h.1]; simp
theorem aw_ok {aw : FuncId} (h : aw ∉ [19, 55, 70]) {st : St} (hk : KnowsG st) : CallW (CS (sumK (XA aw))) aw [] st fun v st' => v = .bool true ∧ st' = st := by
  refine CallW.known (.more (X := XA aw) ⟨rfl, rfl, hk, rfl⟩) fun v st' k => ?_
  cases k with
  | more k => obtain ⟨_, _, _, k⟩ := k; exact Prod.mk.inj k
theorem stG_knows (e : TypeId) : KnowsG (stG e) := ⟨e, fun _ _ h => h⟩
theorem stG_pt (e : TypeId) : PT id (stG e) (stG e) := PT.base (stG_low e) ⟨Nat.le_refl _, fun _ _ h => h, fun _ _ h => h, fun f F c o hF _ _ => by cases hF⟩
theorem stG_nf (e : TypeId) : NF (stG e) := fun c o f hc hf => by
  obtain ⟨F, hF⟩ := (stG_low e).wf.famk c o f hc hf
  cases hF
theorem r_sidx {P : Program} {ρ : Rho} {st : St} {t : TypeId} {x y : Operand} {s : List UInt8} {i k : Nat} {kk : IntKind} {c : UInt8} (ht : und P t = some .string) (hx : ρ x = some (.str s)) (hy : ρ y = some (.int kk (i : Int))) (h : s[i]? = some c) (hc : c.toNat = k) : aopR P ρ st (.index t x y) = some (.int .u8 (k : Int), st) := by
  have hy' : ρ y = some (.int kk (.ofNat i)) := hy
  simp only [aopR, hx, hy', bnd_some, oIndex, ht, nth_eq, h, hc]
  rfl
theorem addB {a b : Nat} (h : a + b < 256) : intBin .add .u8 (a : Int) (b : Int) = some (.int .u8 ((a + b : Nat) : Int)) := by
  have : wrapF .u8 (Int.add a b) = ((a + b : Nat) : Int) := by
    rw [wrapF_eq]
    show IntKind.wrap .u8 ((a : Int) + b) = _
    rw [IntWalk.u8_in _ (by omega)]; omega
  simp only [intBin, this]
theorem subB {a b c : Nat} (h : b + c = a) (ha : a < 256) : intBin .sub .u8 (a : Int) (b : Int) = some (.int .u8 (c : Int)) := by
  have : wrapF .u8 (Int.sub a b) = (c : Int) := by
    rw [wrapF_eq]
    show IntKind.wrap .u8 ((a : Int) - b) = _
    rw [IntWalk.u8_in _ (by omega)]; omega
  simp only [intBin, this]
theorem sub_nat' {a b c : Nat} (h : b + c = a) (ha : a < 9223372036854775808) : intBin .sub .i64 (a : Int) (b : Int) = some (.int .i64 (c : Int)) := by
  have : wrapF .i64 (Int.sub a b) = (c : Int) := by
    rw [wrapF_eq]
    show IntKind.wrap .i64 ((a : Int) - b) = _
    rw [IntWalk.i64_in _ (by omega)]; omega
  simp only [intBin, this]
theorem un21 : und Tryz.prog 21 = some (.int .i32) := by kernel_rfl
theorem ieqb_self (n : Int) : ieqb n n = true := by rw [ieqb_eq]; simp
theorem eqL_same (s : List UInt8) : eqL s s = true := eqL_self s
theorem ieqb_f {a b : Int} (h : a ≠ b) : ieqb a b = false := by rw [ieqb_eq]; simp [h]
end Go.Proofs.Tz
