/- The abstract evaluator: operations, the first half. -/
import Derived.Test.YtjnahfpnehmehaaGreatDoorAeB
import GoSem.Dispatch
import Derived.Laws.Strings
import Derived.Laws.StructEq
namespace Go.AE
open Go Go.RowKit

variable {P : Program} {n : Nat} {φ : Emb}

theorem run_und {t : TypeId} {d : TypeDesc} (h : und P t = some d) (w : World) : (Go.underlying t).run P w = .ok d w := by
  have h' : P.underlying t = some d := h
  simp [Go.underlying, h']
theorem run_info {t : TypeId} {i : TypeInfo} (h : P.info? t = some i) (w : World) : (Go.typeInfo t).run P w = .ok i w := by
  simp [Go.typeInfo, h]
theorem run_size {t : TypeId} {k : Nat} (h : sizeT P t = some k) (w : World) : (Go.sizeOf t).run P w = .ok k w := by
  unfold sizeT at h
  cases hi : P.info? t with
  | none => rw [hi] at h; cases h
  | some i => rw [hi] at h; simp [Go.sizeOf, run_info hi] at h ⊢; exact h
theorem run_isAgg {t : TypeId} {g : Bool} (h : isAggT P t = some g) (w : World) : (Go.isAgg t).run P w = .ok g w := by
  unfold isAggT und at h
  cases hd : P.underlying t with
  | none => rw [hd] at h; cases h
  | some d =>
    rw [hd] at h
    simp only [Option.map_some, Option.some.injEq] at h
    subst h
    simp only [Go.isAgg, Sem.run_bind, run_und (show und P t = some d from hd), Result.andThen_ok]
    cases d <;> rfl
theorem run_zero {t : TypeId} {z : AV} (h : zeroT P t = some z) (w : World) : ∃ u, (Go.zeroValue t).run P w = .ok u w ∧ ∀ φ, conc φ z = u := by
  unfold zeroT at h
  rw [bnd_eq] at h
  obtain ⟨u, hu, hz⟩ := h
  rw [bnd_eq] at hu
  obtain ⟨i, hi, hiz⟩ := hu
  exact ⟨u, by simp [Go.zeroValue, run_info hi, hiz], fun φ => absC_ok hz φ⟩

theorem part_ok {t : TypeId} {cs : List AV} {us : List Value} {off : Nat} {v : AV} (h : part P t cs off = some v) (hr : RepL n φ cs us) (w : World) :
    ∃ u, (Go.part t us.toArray off).run P w = .ok u w ∧ Rep n φ v u := by
  unfold part at h
  rw [bnd_eq] at h
  obtain ⟨g, hg, h⟩ := h
  simp only [Go.part, Sem.run_bind, run_isAgg hg, Result.andThen_ok]
  cases g with
  | true =>
    simp only [cond_true, bnd_eq, Option.some.injEq] at h
    obtain ⟨k, hk, l, hl, rfl⟩ := h
    obtain ⟨hle, rfl⟩ := (takeN_eq _ _ _).1 hl
    simp only [if_true, Sem.run_bind, run_size hk, Result.andThen_ok, Sem.run_pure]
    refine ⟨_, rfl, ?_⟩
    have := Rep.agg ((hr.drop off).take k)
    have e : us.toArray.extract off (off + k) = ((us.drop off).take k).toArray := by
      apply Array.ext'
      simp
    rw [e]; exact this
  | false =>
    simp only [cond_false] at h
    rw [nth_eq] at h
    obtain ⟨u, hu, hr'⟩ := hr.get h
    simp only [Bool.false_eq_true, if_false]
    have : us.toArray[off]? = some u := by simpa using hu
    rw [this]
    exact ⟨u, rfl, hr'⟩

/-! Numbers, bools, strings -/
theorem Rep.int_inv {k : IntKind} {m : Int} {u : Value} (h : Rep n φ (.int k m) u) : u = .int k m := by rw [← h.now, conc]
theorem Rep.bool_inv {b : Bool} {u : Value} (h : Rep n φ (.bool b) u) : u = .bool b := by rw [← h.now, conc]
theorem Rep.str_inv {s : List UInt8} {u : Value} (h : Rep n φ (.str s) u) : u = .string ⟨s.toArray⟩ := by rw [← h.now, conc]
theorem Rep.ptr_inv {b off : Nat} {u : Value} (h : Rep n φ (.ptr b off) u) : u = .pointer (some (caddr φ b off)) := by rw [← h.now, conc]
theorem Rep.slc_inv {b off len : Nat} {c : Option Nat} {u : Value} (h : Rep n φ (.slc b off len c) u) :
    u = .slice (some (caddr φ b off)) len (capOf φ b off c) := by rw [← h.now, conc]
theorem Rep.int {k : IntKind} {m : Int} : Rep n φ (.int k m) (.int k m) := Rep.closed fun _ => by rw [conc]
theorem Rep.bool {b : Bool} : Rep n φ (.bool b) (.bool b) := Rep.closed fun _ => by rw [conc]
theorem Rep.str {s : List UInt8} : Rep n φ (.str s) (.string ⟨s.toArray⟩) := Rep.closed fun _ => by rw [conc]
/-- An address moved on within its block. -/
theorem Rep.ptr_add {b off k : Nat} {u : Value} (h : Rep n φ (.ptr b off) u) : Rep n φ (.ptr b (off + k)) (.pointer (some ((caddr φ b off).add k))) := by
  intro φ' h'
  have h1 := h φ' h'
  rw [← h.now, conc, conc] at h1
  have h2 := Option.some.inj (Value.pointer.inj h1)
  rw [conc, ← h2]
  unfold caddr
  rw [addr_add, Nat.add_assoc]
theorem Rep.slc_ptr {b off len k : Nat} {c : Option Nat} {u : Value} (h : Rep n φ (.slc b off len c) u) : Rep n φ (.ptr b (off + k)) (.pointer (some ((caddr φ b off).add k))) := by
  refine Rep.ptr_add (u := .pointer (some (caddr φ b off))) fun φ' h' => ?_
  have h1 := h φ' h'
  rw [← h.now, conc, conc] at h1
  obtain ⟨h2, _, _⟩ := Value.slice.inj h1
  rw [conc, Option.some.inj h2]

theorem intBin_ok {op : BinOp} {k : IntKind} {a b : Int} {v : AV} (h : intBin op k a b = some v) (w : World) :
    ∃ u, (match op with
      | .add | .sub | .mul => Op.intArith op k a b
      | .quo | .rem => Op.intDiv op k a b
      | .and | .or | .xor | .andNot => Op.intBits op k a b
      | _ => Op.intCmp op a b : Sem Value).run P w = .ok u w ∧ Rep n φ v u := by
  cases op <;> simp only [intBin, Option.some.injEq, reduceCtorEq, cnd_none_eq] at h
  case add => subst h; exact ⟨_, rfl, by rw [wrapF_eq]; exact Rep.int⟩
  case sub => subst h; exact ⟨_, rfl, by rw [wrapF_eq]; exact Rep.int⟩
  case mul => subst h; exact ⟨_, rfl, by rw [wrapF_eq]; exact Rep.int⟩
  case quo =>
    obtain ⟨hz, rfl⟩ := h
    rw [ieqb_eq] at hz
    have hb : b ≠ 0 := by simpa using hz
    refine ⟨.int k (k.wrap (a.tdiv b)), ?_, by rw [wrapF_eq]; exact Rep.int⟩
    simp only [Op.intDiv, if_neg hb, Sem.run_pure]
  case rem =>
    obtain ⟨hz, rfl⟩ := h
    rw [ieqb_eq] at hz
    have hb : b ≠ 0 := by simpa using hz
    refine ⟨.int k (a.tmod b), ?_, Rep.int⟩
    simp only [Op.intDiv, if_neg hb, Sem.run_pure]
  case and => subst h; exact ⟨_, rfl, Rep.int⟩
  case or => subst h; exact ⟨_, rfl, Rep.int⟩
  case xor => subst h; exact ⟨_, rfl, Rep.int⟩
  case andNot => subst h; exact ⟨_, rfl, Rep.int⟩
  case eql =>
    subst h
    refine ⟨_, rfl, ?_⟩
    rw [ieqb_eq]
    have : (a == b) = decide (a = b) := by rw [Bool.eq_iff_iff]; simp
    rw [this]; exact Rep.bool
  case neq =>
    subst h
    refine ⟨_, rfl, ?_⟩
    rw [ieqb_eq]
    have : (a != b) = !decide (a = b) := by rw [Bool.eq_iff_iff]; simp
    rw [this]; exact Rep.bool
  case lss => subst h; exact ⟨_, rfl, by rw [iltb_eq]; exact Rep.bool⟩
  case leq =>
    subst h
    refine ⟨_, rfl, ?_⟩
    rw [iltb_eq]
    have : (decide (a ≤ b)) = !decide (b < a) := by rw [Bool.eq_iff_iff]; simp
    rw [this]; exact Rep.bool
  case gtr => subst h; exact ⟨_, rfl, by rw [iltb_eq]; exact Rep.bool⟩
  case geq =>
    subst h
    refine ⟨_, rfl, ?_⟩
    rw [iltb_eq]
    have : (decide (a ≥ b)) = !decide (a < b) := by rw [Bool.eq_iff_iff]; simp
    rw [this]; exact Rep.bool
theorem shiftOp_ok {op : BinOp} {k : IntKind} {a y : Int} {v : AV} (h : shiftOp op k a y = some v) (yk : IntKind) (w : World) :
    ∃ u, (Op.shift op k a yk y).run P w = .ok u w ∧ Rep n φ v u := by
  unfold shiftOp at h
  cases hy : iltb y 0 with
  | true => rw [hy] at h; cases h
  | false =>
    rw [hy] at h
    simp only [cond_false] at h
    rw [iltb_eq] at hy
    have hy' : ¬ y < 0 := by simpa using hy
    simp only [Op.shift, if_neg hy']
    cases op <;> simp only [Option.some.injEq, reduceCtorEq] at h
    · subst h; exact ⟨_, rfl, by rw [wrapF_eq]; exact Rep.int⟩
    · subst h; exact ⟨_, rfl, Rep.int⟩
theorem toList_mk (s : List UInt8) : (⟨s.toArray⟩ : ByteArray).toList = s := by
  simp
theorem strBin_ok {op : BinOp} {a b : List UInt8} {v : AV} (h : strBin op a b = some v) (w : World) :
    ∃ u, (Op.stringOp op ⟨a.toArray⟩ ⟨b.toArray⟩).run P w = .ok u w ∧ Rep n φ v u := by
  have heq : ∀ (x y : List UInt8), (x == y) = decide (x = y) := fun x y => by rw [Bool.eq_iff_iff]; simp
  cases op <;> simp only [strBin, Option.some.injEq, reduceCtorEq, cnd_eq, ble_true] at h
  case add =>
    obtain ⟨hl, rfl⟩ := h
    have hsz : ¬ ((((⟨a.toArray⟩ : ByteArray).size + (⟨b.toArray⟩ : ByteArray).size : Nat) : Int) > IntKind.i64.max) := by
      simp only [ByteArray.size, List.size_toArray, IntKind.max, IntKind.signed, IntKind.bits, if_true]
      have : ((2 : Int) ^ (64 - 1) - 1) = 9223372036854775807 := by decide
      rw [this]; omega
    simp only [Op.stringOp, if_neg hsz]
    refine ⟨_, rfl, ?_⟩
    have : (⟨a.toArray⟩ ++ ⟨b.toArray⟩ : ByteArray) = ⟨(a ++ b).toArray⟩ := by
      apply ByteArray.ext
      simp [ByteArray.data_append]
    rw [this]; exact Rep.str
  all_goals (subst h; simp only [Op.stringOp, toList_mk]; refine ⟨_, rfl, ?_⟩; simp only [eqL_eq, ltL_eq, heq]; exact Rep.bool)
end Go.AE

namespace Go.AE
open Go Go.RowKit

variable {P : Program} {n : Nat} {φ : Emb}

/-- What the abstract equality of a kind says of the model's. -/
def EqOk (P : Program) (D : Nat) (eq : TypeId → AV → AV → Option Bool) : Prop :=
  ∀ (t : TypeId) (x y : AV) (q : Bool), eq t x y = some q → ∀ (n : Nat) (φ : Emb) (u u' : Value) (w : World), Rep n φ x u → Rep n φ y u' → (Op.equalIn D t u u').run P w = .ok q w

theorem eqFs_ok {D : Nat} {eq : TypeId → AV → AV → Option Bool} (he : EqOk P D eq) {xs ys : List AV} {us us' : List Value} (h1 : RepL n φ xs us) (h2 : RepL n φ ys us') (w : World) :
    ∀ (fs : List Field) (q : Bool), eqFs P eq xs ys fs = some q → (Op.eqFields D us.toArray us'.toArray fs).run P w = .ok q w
  | [], q, h => by simp only [eqFs, Option.some.injEq] at h; subst h; rfl
  | f :: fs, q, h => by
    rw [eqFs] at h
    cases hn : (f.name == "_") with
    | true => rw [hn] at h; cases h
    | false =>
      rw [hn] at h
      simp only [cond_false, bnd_eq] at h
      obtain ⟨a, ha, b, hb, r, hr, h⟩ := h
      obtain ⟨u, hu, ru⟩ := part_ok ha h1 w
      obtain ⟨u', hu', ru'⟩ := part_ok hb h2 w
      have hne : f.name ≠ "_" := by simpa using hn
      rw [Op.eqFields, if_pos hne]
      simp only [Sem.run_bind, hu, hu', Result.andThen_ok, he _ _ _ _ hr n φ u u' w ru ru']
      cases r with
      | true => simp only [cnd_true] at h; simp only [Bool.not_true, Bool.false_eq_true, if_false]; exact eqFs_ok he h1 h2 w fs q h
      | false => simp only [cnd_false, Option.some.injEq] at h; subst h; simp
theorem eqAs_ok {D : Nat} {eq : TypeId → AV → AV → Option Bool} (he : EqOk P D eq) {xs ys : List AV} {us us' : List Value} (h1 : RepL n φ xs us) (h2 : RepL n φ ys us') (e m : Nat) (w : World) :
    ∀ (k i : Nat) (q : Bool), eqAs P eq e m xs ys k i = some q →
      (do for j in List.range' i k do
            if !(← Op.equalIn D e (← Go.part e us.toArray (j * m)) (← Go.part e us'.toArray (j * m))) then return false
          pure true : Sem Bool).run P w = .ok q w
  | 0, i, q, h => by simp only [eqAs, Option.some.injEq] at h; subst h; simp
  | k + 1, i, q, h => by
    simp only [eqAs, bnd_eq] at h
    obtain ⟨a, ha, b, hb, r, hr, h⟩ := h
    obtain ⟨u, hu, ru⟩ := part_ok ha h1 w
    obtain ⟨u', hu', ru'⟩ := part_ok hb h2 w
    have ih := eqAs_ok he h1 h2 e m w k (i + 1) q
    simp only [List.range'_succ, List.forIn_cons, Sem.run_bind, hu, hu', Result.andThen_ok, he _ _ _ _ hr n φ u u' w ru ru'] at ih ⊢
    cases r with
    | true => simp only [cnd_true] at h; simpa using ih h
    | false => simp only [cnd_false, Option.some.injEq] at h; subst h; simp
theorem beq_bytes (a b : List UInt8) : ((⟨a.toArray⟩ : ByteArray) == ⟨b.toArray⟩) = decide (a = b) := by
  rw [beq_toListBytes, ByteArray.toList_mk, ByteArray.toList_mk, Bool.eq_iff_iff]; simp
theorem aeqStep_ok {D : Nat} {eq : TypeId → AV → AV → Option Bool} (he : EqOk P D eq) : EqOk P (D + 1) (aeqStep P eq) := by
  intro t x y q h n φ u u' w hx hy
  unfold aeqStep at h
  split at h <;> try simp only [Option.some.injEq, reduceCtorEq, cnd_eq] at h
  · rename_i hd; subst h; rw [hx.bool_inv, hy.bool_inv]; simp only [Op.equalIn, Sem.run_bind, run_und hd, Result.andThen_ok, Sem.run_pure]
  · rename_i hd
    obtain ⟨hk, rfl⟩ := h
    rw [kindEq_eq] at hk; simp only [decide_eq_true_eq] at hk; subst hk
    rw [hx.int_inv, hy.int_inv]
    simp only [Op.equalIn, Sem.run_bind, run_und hd, Result.andThen_ok, if_true, Sem.run_pure, ieqb_eq]
    congr 1
  · rename_i hd; subst h; rw [hx.str_inv, hy.str_inv]
    simp only [Op.equalIn, Sem.run_bind, run_und hd, Result.andThen_ok, Sem.run_pure, eqL_eq, beq_bytes]
  · rename_i hd; subst h; rw [show u = .pointer none by rw [← hx.now, conc], show u' = .pointer none by rw [← hy.now, conc]]
    simp only [Op.equalIn, Sem.run_bind, run_und hd, Result.andThen_ok, Sem.run_pure]; rfl
  · rename_i hd; subst h; rw [show u = .pointer none by rw [← hx.now, conc], hy.ptr_inv]
    simp only [Op.equalIn, Sem.run_bind, run_und hd, Result.andThen_ok, Sem.run_pure]; rfl
  · rename_i hd; subst h; rw [show u' = .pointer none by rw [← hy.now, conc], hx.ptr_inv]
    simp only [Op.equalIn, Sem.run_bind, run_und hd, Result.andThen_ok, Sem.run_pure]
  · rename_i hd
    simp only [bnd_eq, cnd_eq, Bool.and_eq_true, ble_true, beq_true, Option.some.injEq] at h
    obtain ⟨k, hk, ⟨hk1, rfl⟩, rfl⟩ := h
    rw [hx.ptr_inv, hy.ptr_inv]
    simp only [Op.equalIn, Sem.run_bind, run_und hd, Result.andThen_ok, run_size hk]
    have : k ≠ 0 := by omega
    rw [if_pos this]
    simp only [sameAddr, caddr, beq_self_eq_true, if_true, Sem.run_pure]
    congr 1
    rw [Bool.eq_iff_iff, beq_true]; simp
  · rename_i hd; subst h
    obtain rfl : u = .nilIface := by rw [← hx.now, conc]
    have : ∃ t' v', u' = .iface t' v' := by rw [← hy.now, conc]; exact ⟨_, _, rfl⟩
    obtain ⟨t', v', rfl⟩ := this
    simp only [Op.equalIn, Sem.run_bind, run_und hd, Result.andThen_ok, Sem.run_pure]
  · rename_i hd; subst h
    obtain rfl : u' = .nilIface := by rw [← hy.now, conc]
    have : ∃ t' v', u = .iface t' v' := by rw [← hx.now, conc]; exact ⟨_, _, rfl⟩
    obtain ⟨t', v', rfl⟩ := this
    simp only [Op.equalIn, Sem.run_bind, run_und hd, Result.andThen_ok, Sem.run_pure]
  · rename_i fs xs ys hd
    obtain ⟨us, rfl, rx⟩ := hx.agg_inv
    obtain ⟨us', rfl, ry⟩ := hy.agg_inv
    cases hp : P.stoodInHeld t with
    | true => rw [hp] at h; cases h
    | false =>
      rw [hp] at h
      simp only [cnd_false] at h
      have hf : P.fieldsOf t = fs := by unfold Program.fieldsOf; rw [show P.underlying t = _ from hd]
      rw [run_equalIn_struct w D t _ _ (by rw [hf]; exact hd) hp, hf]
      exact eqFs_ok he rx ry w _ _ h
  · rename_i len e xs ys hd
    obtain ⟨us, rfl, rx⟩ := hx.agg_inv
    obtain ⟨us', rfl, ry⟩ := hy.agg_inv
    rw [bnd_eq] at h
    obtain ⟨k, hk, h⟩ := h
    simp only [Op.equalIn, Sem.run_bind, run_und hd, Result.andThen_ok, run_size hk]
    have := eqAs_ok he rx ry e k w len 0 q h
    simp only [Std.Legacy.Range.forIn_eq_forIn_range', Std.Legacy.Range.size, Nat.sub_zero, Nat.add_sub_cancel, Nat.div_one]
    simpa using this
  · rename_i hd; subst h; rw [show u = .slice none 0 0 by rw [← hx.now, conc], show u' = .slice none 0 0 by rw [← hy.now, conc]]
    simp only [Op.equalIn, Sem.run_bind, run_und hd, Result.andThen_ok, Sem.run_pure]; rfl
  · rename_i hd; subst h; rw [show u = .slice none 0 0 by rw [← hx.now, conc], hy.slc_inv]
    simp only [Op.equalIn, Sem.run_bind, run_und hd, Result.andThen_ok, Sem.run_pure]; rfl
  · rename_i hd; subst h; rw [show u' = .slice none 0 0 by rw [← hy.now, conc], hx.slc_inv]
    simp only [Op.equalIn, Sem.run_bind, run_und hd, Result.andThen_ok, Sem.run_pure]
  · rename_i hd; subst h; rw [show u = .map none by rw [← hx.now, conc], show u' = .map none by rw [← hy.now, conc]]
    simp only [Op.equalIn, Sem.run_bind, run_und hd, Result.andThen_ok, Sem.run_pure]; rfl
  · rename_i hd; subst h; rw [show u = .map none by rw [← hx.now, conc], show u' = _ by rw [← hy.now, conc]]
    simp only [Op.equalIn, Sem.run_bind, run_und hd, Result.andThen_ok, Sem.run_pure]; rfl
  · rename_i hd; subst h; rw [show u' = .map none by rw [← hy.now, conc], show u = _ by rw [← hx.now, conc]]
    simp only [Op.equalIn, Sem.run_bind, run_und hd, Result.andThen_ok, Sem.run_pure]
  · rename_i hd; subst h; rw [show u = .nilFunc by rw [← hx.now, conc], show u' = .nilFunc by rw [← hy.now, conc]]
    simp only [Op.equalIn, Sem.run_bind, run_und hd, Result.andThen_ok, Sem.run_pure]
  · rename_i hd; subst h; rw [show u = .nilFunc by rw [← hx.now, conc], show u' = _ by rw [← hy.now, conc]]
    simp only [Op.equalIn, Sem.run_bind, run_und hd, Result.andThen_ok, Sem.run_pure]
  · rename_i hd; subst h; rw [show u' = .nilFunc by rw [← hy.now, conc], show u = _ by rw [← hx.now, conc]]
    simp only [Op.equalIn, Sem.run_bind, run_und hd, Result.andThen_ok, Sem.run_pure]
theorem aeq_ok : ∀ (d D : Nat), d ≤ D → EqOk P D (aeq P d)
  | 0, D, _ => fun t x y q h => by simp [aeq] at h
  | d + 1, 0, h => by omega
  | d + 1, D + 1, h => by
    show EqOk P (D + 1) (aeqStep P (aeq P d))
    exact aeqStep_ok (aeq_ok d D (by omega))
theorem aeq20_ok {t : TypeId} {x y : AV} {q : Bool} (h : aeq P 20 t x y = some q) {u u' : Value} (hx : Rep n φ x u) (hy : Rep n φ y u') (w : World) :
    (Op.equal t u u').run P w = .ok q w := aeq_ok 20 Op.maxDepth (by decide) t x y q h n φ u u' w hx hy
end Go.AE

namespace Go.AE
open Go Go.RowKit

variable {P : Program} {n : Nat} {φ : Emb}

/-- A pure operation's answer. -/
def Gives (P : Program) (n : Nat) (φ : Emb) (w : World) (s : Sem Value) (v : AV) : Prop := ∃ u, s.run P w = .ok u w ∧ Rep n φ v u

/-! Parts filled in -/
theorem foldl_over : ∀ (l : List Value) (k off : Nat) (cells : Array Value),
    (l.zipIdx k).foldl (fun (cs : Array Value) (p : Value × Nat) => cs.setIfInBounds (off + p.2) p.1) cells = ovr cells (off + k) l
  | [], k, off, cells => rfl
  | v :: l, k, off, cells => by
    rw [List.zipIdx_cons, List.foldl_cons, foldl_over l (k + 1) off]
    rfl
theorem RepL.over {cs vs r : List AV} {us xs : List Value} {off : Nat} (h : RepL n φ cs us) (hv : RepL n φ vs xs) (ho : overAt cs off vs = some r) (hne : vs ≠ [] ∨ off ≤ cs.length) :
    off + xs.length ≤ us.length ∧ RepL n φ r (ovr us.toArray off xs).toList := by
  obtain ⟨h1, h2, h3⟩ := overAt_eq cs off vs r ho
  have hl1 := h.length
  have hl2 := hv.length
  have hle : off + xs.length ≤ us.length := by
    rw [hl1, hl2]
    by_cases e : vs = []
    · subst e; simp at hne ⊢; exact hne
    · exact h2 e
  refine ⟨hle, RepL.of_get (by simp [ovr_size, h1, hl1]) fun i a x ha hx => ?_⟩
  rw [h3 i] at ha
  rw [Array.getElem?_toList, ovr_get _ _ _ _ (by simpa using hle)] at hx
  rw [hl2] at hx
  by_cases e : off ≤ i ∧ i < off + vs.length
  · rw [if_pos e] at ha hx
    obtain ⟨y, hy, ry⟩ := hv.get ha
    rw [hy] at hx; obtain rfl := Option.some.inj hx; exact ry
  · rw [if_neg e] at ha hx
    obtain ⟨y, hy, ry⟩ := h.get ha
    have : us.toArray[i]? = some y := by simpa using hy
    rw [this] at hx; obtain rfl := Option.some.inj hx; exact ry
/-- Pairs of a number and a value, read. -/
def RepPs (n : Nat) (φ : Emb) (ps : List (Nat × AV)) (qs : List (Nat × Value)) : Prop := qs.map (·.1) = ps.map (·.1) ∧ RepL n φ (ps.map (·.2)) (qs.map (·.2))
theorem evps_ok {fr : Fr} {a : Act} (hb : Base n φ) (h : FrR n φ fr a) : ∀ {xs : List (Nat × Operand)} {vs : List (Nat × AV)}, evps fr xs = some vs → RepPs n φ vs (xs.map fun (i, x) => (i, a.eval x))
  | [], vs, he => by simp only [evps, Option.some.injEq] at he; subst he; exact ⟨rfl, RepL.nil⟩
  | (i, x) :: xs, vs, he => by
    simp only [evps, bnd_eq, Option.some.injEq] at he
    obtain ⟨v, hv, vs', hvs, rfl⟩ := he
    obtain ⟨h1, h2⟩ := evps_ok hb h hvs
    exact ⟨by simpa using h1, by simpa using RepL.cons (ev_ok hb h hv) h2⟩
theorem fill_ok {place : Nat → Option (Nat × Nat)} : ∀ {ps : List (Nat × AV)} {qs : List (Nat × Value)} {cs r : List AV} {us : List Value},
    fill place cs ps = some r → RepPs n φ ps qs → RepL n φ cs us → ∃ us' : List Value, Instr.fill place us.toArray qs = some us'.toArray ∧ RepL n φ r us'
  | [], qs, cs, r, us, h, hp, hc => by
    simp only [fill, Option.some.injEq] at h; subst h
    obtain ⟨h1, _⟩ := hp
    have : qs = [] := by simpa using h1
    subst this
    exact ⟨us, rfl, hc⟩
  | (i, v) :: ps, qs, cs, r, us, h, hp, hc => by
    simp only [fill, bnd_eq, cnd_eq, Bool.and_eq_true, beq_true, ble_true] at h
    obtain ⟨⟨off, size⟩, hpl, ⟨⟨hsz, hs1⟩, _⟩, cs', hov, h⟩ := h
    obtain ⟨h1, h2⟩ := hp
    cases qs with
    | nil => simp at h1
    | cons q qs =>
      obtain ⟨j, u⟩ := q
      simp only [List.map_cons, List.cons.injEq] at h1
      obtain ⟨rfl, h1⟩ := h1
      have hv : Rep n φ v u := by
        obtain ⟨x, hx, rx⟩ := h2.get (i := 0) (a := v) rfl
        simp at hx; subst hx; exact rx
      have h2' : RepL n φ (ps.map (·.2)) (qs.map (·.2)) := by simpa using h2.drop 1
      have hcl := hv.cells
      have hul : u.cells.size = size := by have := hcl.length; simpa [hsz] using this
      obtain ⟨hle, hr⟩ := RepL.over hc hcl hov (.inl (by intro e; rw [e] at hsz; simp at hsz; omega))
      simp only [Array.length_toList] at hle
      obtain ⟨us', hf, hr'⟩ := fill_ok h ⟨h1, h2'⟩ hr
      refine ⟨us', ?_, hr'⟩
      rw [Instr.fill, hpl]
      have hno : ¬ (u.cells.size ≠ size ∨ off + u.cells.size > us.toArray.size) := by
        rintro (e | e)
        · exact e hul
        · simp at e; omega
      simp only
      rw [if_neg (by simpa using hno)]
      rw [← hf]
      congr 1
      rw [← Array.foldl_toList, Array.toList_zipIdx, foldl_over]
      simp
end Go.AE

namespace Go.AE
open Go Go.RowKit

variable {P : Program} {n : Nat} {φ : Emb} {w : World}

theorem places_ok : ∀ {fs : List Field} {ps : List (Nat × Nat)}, placesOf P fs = some ps → (fs.mapM fun f => Prod.mk f.offset <$> Go.sizeOf f.type).run P w = .ok ps w
  | [], ps, h => by simp only [placesOf, Option.some.injEq] at h; subst h; rfl
  | f :: fs, ps, h => by
    simp only [placesOf, bnd_eq, Option.some.injEq] at h
    obtain ⟨k, hk, r, hr, rfl⟩ := h
    simp [List.mapM_cons, run_size hk, places_ok hr]
theorem build_ok {t : TypeId} {ps : List (Nat × AV)} {qs : List (Nat × Value)} {v : AV} (h : build P t ps = some v) (hp : RepPs n φ ps qs) : Gives P n φ w (Instr.build t qs.toArray) v := by
  unfold build at h
  rw [bnd_eq] at h
  obtain ⟨z, hz, h⟩ := h
  obtain ⟨uz, hz1, hz2⟩ := run_zero hz w
  have hzc : RepL n φ z.cells uz.cells.toList := (Rep.closed (n := n) (φ := φ) hz2).cells
  split at h
  · rename_i fs hd
    simp only [bnd_eq, Option.some.injEq] at h
    obtain ⟨pl, hpl, cs, hcs, rfl⟩ := h
    obtain ⟨us, hf, hr⟩ := fill_ok hcs hp hzc
    refine ⟨.agg us.toArray, ?_, Rep.agg hr⟩
    have hplace : (fun i => pl[i]?) = nth pl := by funext i; rw [nth_eq]
    simp only [Array.toArray_toList] at hf
    rw [← hplace] at hf
    simp [Instr.build, hz1, run_und hd, Array.mapM_eq_mapM_toList, places_ok hpl, hf]
  · rename_i len e hd
    simp only [bnd_eq, Option.some.injEq] at h
    obtain ⟨k, hk, cs, hcs, rfl⟩ := h
    obtain ⟨us, hf, hr⟩ := fill_ok hcs hp hzc
    refine ⟨.agg us.toArray, ?_, Rep.agg hr⟩
    simp only [Array.toArray_toList] at hf
    have hf' : Instr.fill (fun i => some (i * k, k)) uz.cells qs = some us.toArray := hf
    simp [Instr.build, hz1, run_und hd, run_size hk, hf']
  · cases h
theorem unOp_ok {op : UnOp} {x v : AV} {u : Value} (h : unOp op x = some v) (hx : Rep n φ x u) : Gives P n φ w (Op.unary op u) v := by
  unfold unOp at h
  split at h
  · simp only [Option.some.injEq] at h; subst h; rw [hx.int_inv]; exact ⟨_, rfl, Rep.int⟩
  · simp only [Option.some.injEq] at h; subst h; rw [hx.int_inv]; exact ⟨_, rfl, Rep.int⟩
  · simp only [Option.some.injEq] at h; subst h; rw [hx.bool_inv]; exact ⟨_, rfl, Rep.bool⟩
  · cases h
theorem field_ok {t : TypeId} {f : Nat} {x v : AV} {u : Value} {st st' : St} (h : oField P t f x st = some (v, st')) (hx : Rep n φ x u) : st' = st ∧ Gives P n φ w (Instr.field t u f) v := by
  unfold oField at h
  split at h
  · rename_i fs hd
    simp only [bnd_eq, pairS, Option.some.injEq, Prod.mk.injEq] at h
    obtain ⟨fd, hf, cs, hcs, v', hv, rfl, rfl⟩ := h
    cases x <;> simp only [asAgg, Option.some.injEq, reduceCtorEq] at hcs
    subst hcs
    obtain ⟨us, rfl, hr⟩ := hx.agg_inv
    obtain ⟨y, hy, ry⟩ := part_ok (P := P) hv hr w
    rw [nth_eq] at hf
    have hf' : fs[f]? = some fd := by simpa using hf
    refine ⟨rfl, y, ?_, ry⟩
    simp [Instr.field, run_und hd, hf', Go.asAgg, hy]
  · cases h
theorem extract_ok {i : Nat} {x v : AV} {u : Value} {st st' : St} (h : oExtract i x st = some (v, st')) (hx : Rep n φ x u) : st' = st ∧ Gives P n φ w (Instr.extract u i) v := by
  unfold oExtract at h
  split at h
  · simp only [bnd_eq, pairS, Option.some.injEq, Prod.mk.injEq] at h
    obtain ⟨v', hv, rfl, rfl⟩ := h
    obtain ⟨us, rfl, hr⟩ := hx.tup_inv
    rw [nth_eq] at hv
    obtain ⟨y, hy, ry⟩ := hr.get hv
    have : us.toArray[i]? = some y := by simpa using hy
    refine ⟨rfl, y, ?_, ry⟩
    simp [Instr.extract, this]
  · cases h
theorem iface_ok {t : TypeId} {x v : AV} {u : Value} {st st' : St} (h : oIface P t x st = some (v, st')) (hx : Rep n φ x u) : st' = st ∧ Gives P n φ w (Instr.makeInterface t u) v := by
  unfold oIface at h
  split at h
  · cases h
  · rename_i d hni hd
    simp only [Option.some.injEq, Prod.mk.injEq] at h
    obtain ⟨rfl, rfl⟩ := h
    refine ⟨rfl, .iface t u, ?_, fun φ' h' => by rw [conc, hx φ' h']⟩
    simp only [Instr.makeInterface, Sem.run_bind, run_und hd, Result.andThen_ok]
    cases d <;> first | rfl | exact absurd rfl (hni _)
  · cases h
theorem func_ok {fn : Fn} {xs ys : List AV} {us vs : List Value} (h1 : RepL n φ xs us) (h2 : RepL n φ ys vs) (hfn : ∀ φ', concFn φ' fn = fn) : Gives P n φ w (Instr.makeFunc fn us.toArray vs.toArray) (.func fn xs ys) :=
  ⟨_, rfl, fun φ' h' => by rw [conc, h1 φ' h', h2 φ' h', hfn]⟩
theorem fieldAddr_ok {s : TypeId} {f : Nat} {x v : AV} {u : Value} {st st' : St} (h : oFieldAddr P s f x st = some (v, st')) (hx : Rep n φ x u) : st' = st ∧ Gives P n φ w (Instr.fieldAt s u f) v := by
  unfold oFieldAddr at h
  split at h
  · rename_i fs b off hd
    simp only [bnd_eq, cnd_eq, ble_true, Option.some.injEq, Prod.mk.injEq] at h
    obtain ⟨fd, hf, k, hk, hk1, rfl, rfl⟩ := h
    rw [nth_eq] at hf
    have hf' : fs[f]? = some fd := by simpa using hf
    refine ⟨rfl, _, ?_, hx.ptr_add (k := fd.offset)⟩
    rw [hx.ptr_inv]
    have hk0 : k ≠ 0 := by omega
    simp [Instr.fieldAt, run_und hd, hf', Instr.sureAddr, fieldPlace, run_size hk, hk0]
  · cases h
theorem indexAddr_ok {t : TypeId} {x i v : AV} {u ui : Value} {st st' : St} (h : oIndexAddr P t x i st = some (v, st')) (hx : Rep n φ x u) (hi : Rep n φ i ui) :
    st' = st ∧ Gives P n φ w (Instr.indexAt t u ui) v := by
  unfold oIndexAddr at h
  split at h
  · rename_i len e b off k j hd
    simp only [bnd_eq, Option.some.injEq, Prod.mk.injEq, idxb_eq] at h
    obtain ⟨a, ⟨hj, rfl⟩, m, hm, rfl, rfl⟩ := h
    refine ⟨rfl, _, ?_, hx.ptr_add (k := j.toNat * m)⟩
    rw [hx.ptr_inv, hi.int_inv]
    simp [Instr.indexAt, asIntOf, run_und hd, Instr.sureAddr, run_size hm, hj]
  · rename_i e b off len c k j hd
    simp only [bnd_eq, Option.some.injEq, Prod.mk.injEq, idxb_eq] at h
    obtain ⟨a, ⟨hj, rfl⟩, m, hm, rfl, rfl⟩ := h
    refine ⟨rfl, _, ?_, hx.slc_ptr (k := j.toNat * m)⟩
    rw [hx.slc_inv, hi.int_inv]
    simp [Instr.indexAt, asIntOf, run_und hd, run_size hm, hj]
  · cases h
theorem index_ok {t : TypeId} {x i v : AV} {u ui : Value} {st st' : St} (h : oIndex P t x i st = some (v, st')) (hx : Rep n φ x u) (hi : Rep n φ i ui) :
    st' = st ∧ Gives P n φ w (Instr.index t u ui) v := by
  unfold oIndex at h
  split at h
  · rename_i len e cs k j hd
    simp only [bnd_eq, pairS, Option.some.injEq, Prod.mk.injEq, idxb_eq] at h
    obtain ⟨a, ⟨hj, rfl⟩, m, hm, v', hv, rfl, rfl⟩ := h
    obtain ⟨us, rfl, hr⟩ := hx.agg_inv
    obtain ⟨y, hy, ry⟩ := part_ok (P := P) hv hr w
    refine ⟨rfl, y, ?_, ry⟩
    rw [hi.int_inv]
    have hy' : (Go.part e us.toArray (j.toNat * m)).run P w = .ok y w := hy
    simp [Instr.index, asIntOf, run_und hd, run_size hm, hj, hy']
  · rename_i s k j hd
    simp only [bnd_eq, Option.some.injEq, Prod.mk.injEq] at h
    obtain ⟨c, hc, rfl, rfl⟩ := h
    rw [nth_eq] at hc
    refine ⟨rfl, _, ?_, Rep.int⟩
    rw [hx.str_inv, hi.int_inv]
    have hc' : (⟨s.toArray⟩ : ByteArray)[j]? = some c := by
      obtain ⟨h1, h2⟩ := List.getElem?_eq_some_iff.1 hc
      have hlt : j < (⟨s.toArray⟩ : ByteArray).size := by simpa [ByteArray.size] using h1
      rw [getElem?_pos (⟨s.toArray⟩ : ByteArray) j hlt]
      have : (⟨s.toArray⟩ : ByteArray)[j]'hlt = s[j] := rfl
      rw [this, h2]
    simp [Instr.index, asIntOf, run_und hd, hc']
  · cases h
end Go.AE

namespace Go.AE
open Go Go.RowKit

variable {P : Program} {n : Nat} {φ : Emb} {w : World}

def RepO (n : Nat) (φ : Emb) : Option AV → Option Value → Prop
  | none, none => True
  | some v, some u => Rep n φ v u
  | _, _ => False
theorem bound_some {i : AV} {most d k : Nat} {u : Value} (h : bound (some i) most d = some k) (hr : Rep n φ i u) (m : Nat) (hm : most ≤ m) (code : BoundsCode) :
    (Instr.sliceBound u m code).run P w = .ok k w := by
  cases i <;> simp only [bound, reduceCtorEq, cnd_eq, Bool.and_eq_true, decide_eq_true_eq, ble_true, Option.some.injEq] at h
  rename_i kd z
  obtain ⟨⟨h0, h1⟩, rfl⟩ := h
  rw [hr.int_inv]
  have : (0 : Int) ≤ z ∧ z ≤ (m : Int) := ⟨h0, by omega⟩
  simp only [Instr.sliceBound, Sem.run_bind, asIntOf, Sem.run_pure, Result.andThen_ok, if_pos this]
theorem bound_none {most d k : Nat} (h : bound none most d = some k) : k = d := by simpa [bound] using h.symm
theorem isNone_some {α : Type} {x : Option α} : isNone x = true ↔ x = none := by cases x <;> simp [isNone]

/-- The bounds of a slice expression, where the capacity is c and 'most' of it are known. -/
theorem bounds_ok {lo hi mx : Option AV} {ulo uhi umx : Option Value} {len c m h l : Nat} {isS : Bool} (rlo : RepO n φ lo ulo) (rhi : RepO n φ hi uhi) (rmx : RepO n φ mx umx)
    (hm : (mx = none ∧ m = c) ∨ ∃ k, bound mx k c = some m ∧ mx ≠ none ∧ k ≤ c) (hh : (hi = none ∧ h = len) ∨ ∃ k, bound hi k len = some h ∧ hi ≠ none ∧ k ≤ m) (hl : bound lo h 0 = some l)
    (hx : mx = none ∨ hi ≠ none) :
    (Instr.sliceBounds isS len c ulo uhi umx).run P w = .ok (l, h, m) w := by
  have e1 : (umx = none ∧ m = c ∧ mx = none) ∨ ∃ u, umx = some u ∧ mx ≠ none ∧ ∀ code, (Instr.sliceBound u c code).run P w = .ok m w := by
    rcases hm with ⟨rfl, rfl⟩ | ⟨k, hb, hne, hk⟩
    · cases umx with
      | none => exact .inl ⟨rfl, rfl, rfl⟩
      | some u => exact rmx.elim
    · cases mx with
      | none => exact absurd rfl hne
      | some v => cases umx with
        | none => exact rmx.elim
        | some u => exact .inr ⟨u, rfl, by simp, bound_some hb rmx c hk⟩
  have e2 : (uhi = none ∧ h = len ∧ hi = none) ∨ ∃ u, uhi = some u ∧ ∀ code, (Instr.sliceBound u m code).run P w = .ok h w := by
    rcases hh with ⟨rfl, rfl⟩ | ⟨k, hb, hne, hk⟩
    · cases uhi with
      | none => exact .inl ⟨rfl, rfl, rfl⟩
      | some u => exact rhi.elim
    · cases hi with
      | none => exact absurd rfl hne
      | some v => cases uhi with
        | none => exact rhi.elim
        | some u => exact .inr ⟨u, rfl, bound_some hb rhi m hk⟩
  have e3 : (ulo = none ∧ l = 0) ∨ ∃ u, ulo = some u ∧ ∀ code, (Instr.sliceBound u h code).run P w = .ok l w := by
    cases lo with
    | none => cases ulo with
      | none => exact .inl ⟨rfl, bound_none hl⟩
      | some u => exact rlo.elim
    | some v => cases ulo with
      | none => exact rlo.elim
      | some u => exact .inr ⟨u, rfl, bound_some hl rlo h (Nat.le_refl _)⟩
  rcases e1 with ⟨rfl, rfl, hmx⟩ | ⟨u1, rfl, hmx, r1⟩ <;> rcases e2 with ⟨rfl, rfl, hhi⟩ | ⟨u2, rfl, r2⟩ <;> rcases e3 with ⟨rfl, rfl⟩ | ⟨u3, rfl, r3⟩
  case inr.inl.inl => rcases hx with h | h
                      · exact absurd h hmx
                      · exact absurd hhi h
  case inr.inl.inr => rcases hx with h | h
                      · exact absurd h hmx
                      · exact absurd hhi h
  all_goals simp only [Instr.sliceBounds, Sem.run_bind, Sem.run_pure, Result.andThen_ok]
  all_goals simp [*]
theorem lo_le {lo : Option AV} {h l : Nat} (hl : bound lo h 0 = some l) : l ≤ h := by
  cases lo with
  | none => rw [bound_none hl]; exact Nat.zero_le _
  | some v =>
    cases v <;> simp only [bound, reduceCtorEq, cnd_eq, Bool.and_eq_true, decide_eq_true_eq, ble_true, Option.some.injEq] at hl
    omega
theorem Rep.slc {b off len : Nat} {c : Option Nat} {u : Value} (h : Rep n φ (.slc b off len c) u) {k len' : Nat} {c' : Option Nat} {cap' : Nat}
    (hc : ∀ φ', Agr n φ φ' → conc φ' (.slc b off len c) = u → capOf φ' b (off + k) c' = cap') :
    Rep n φ (.slc b (off + k) len' c') (.slice (some ((caddr φ b off).add k)) len' cap') := by
  intro φ' h'
  have h1 := h φ' h'
  have h2 := (h.slc_ptr (k := k)) φ' h'
  have h3 : caddr φ' b (off + k) = (caddr φ b off).add k := by
    have h2' : Value.pointer (some (caddr φ' b (off + k))) = .pointer (some ((caddr φ b off).add k)) := h2
    exact Option.some.inj (Value.pointer.inj h2')
  show Value.slice (some (caddr φ' b (off + k))) len' (capOf φ' b (off + k) c') = _
  rw [h3, hc φ' h' h1]

theorem sub_mul_div' (x l s : Nat) (hs : 1 ≤ s) : (x - l * s) / s = x / s - l := by
  rcases Nat.le_total (l * s) x with h | h
  · obtain ⟨r, rfl⟩ := Nat.exists_eq_add_of_le h
    rw [Nat.add_sub_cancel_left, Nat.mul_comm, Nat.mul_add_div (by omega), Nat.add_sub_cancel_left]
  · rw [Nat.sub_eq_zero_of_le h, Nat.zero_div]
    have : x / s ≤ l := Nat.div_le_of_le_mul (by rw [Nat.mul_comm]; exact h)
    omega
theorem KindOk.le {im : Img} {B : Blk} {size : Nat} {fz : Nat × Nat} (h : KindOk im B size fz) {f : Nat} (hk : B.k = .opn f) : max B.room B.hi * B.z ≤ im.phys := by
  unfold KindOk at h
  rw [hk] at h
  obtain ⟨_, h1, h2⟩ := h
  rcases Nat.le_total B.room B.hi with h3 | h3
  · rw [Nat.max_eq_right h3]; exact h1
  · rw [Nat.max_eq_left h3]; exact h2

theorem sliceSlc_ok {B0 : Nat} {st : St} (hs : Sim B0 φ st w) {t e : TypeId} {size b off len : Nat} {cap : Option Nat} {lo hi mx : Option AV} {ulo uhi umx : Option Value} {v : AV} {u : Value}
    (hd : und P t = some (.slice e)) (hz : sizeT P e = some size) (h1 : 1 ≤ size)
    (h : sliceSlc st size b off len cap lo hi mx = some v) (hx : Rep st.next φ (.slc b off len cap) u)
    (rlo : RepO st.next φ lo ulo) (rhi : RepO st.next φ hi uhi) (rmx : RepO st.next φ mx umx) : Gives P st.next φ w (Instr.slice t u ulo uhi umx) v := by
  have hu := hx.slc_inv
  have runIt : ∀ (l h m : Nat), (Instr.sliceBounds true len (capOf φ b off cap) ulo uhi umx).run P w = .ok (l, h, m) w →
      (Instr.slice t u ulo uhi umx).run P w = .ok (.slice (if m = l then some (caddr φ b off) else some ((caddr φ b off).add (l * size))) (h - l) (m - l)) w := by
    intro l h m hb
    rw [hu]
    simp only [Instr.slice, Sem.run_bind, run_und hd, Result.andThen_ok, hb, run_size hz, Sem.run_pure, Option.map_some]
  unfold sliceSlc at h
  cases cap with
  | some c =>
    simp only [bnd_eq, cond_eq, Bool.or_eq_true, isNone_some, Bool.not_eq_true'] at h
    obtain ⟨m, hm, h', hh, l, hl, hok, hv⟩ := h
    obtain rfl := Option.some.inj hv
    have hnn : mx = none ∨ hi ≠ none := by
      rcases hok with h | h
      · exact .inl h
      · exact .inr fun e => by subst e; simp [isNone] at h
    have hb := bounds_ok (P := P) (w := w) (isS := true) (c := c) (len := len) rlo rhi rmx
      (by cases mx with
          | none => exact .inl ⟨rfl, bound_none hm⟩
          | some x => exact .inr ⟨c, hm, by simp, Nat.le_refl _⟩)
      (by cases hi with
          | none => exact .inl ⟨rfl, bound_none hh⟩
          | some x => exact .inr ⟨m, hh, by simp, Nat.le_refl _⟩) hl hnn
    refine ⟨_, runIt l h' m hb, ?_⟩
    by_cases e : m = l
    · rw [if_pos e, beq_true.2 e, cnd_true]
      have := hx.slc (k := 0) (len' := h' - l) (c' := some (m - l)) (cap' := m - l) (fun _ _ _ => rfl)
      simpa [Addr.add] using this
    · have hne : Nat.beq m l = false := by
        cases hb : Nat.beq m l
        · rfl
        · exact absurd (beq_true.1 hb) e
      rw [if_neg e, hne, cnd_false]
      exact hx.slc (fun _ _ _ => rfl)
  | none =>
    simp only [bnd_eq] at h
    obtain ⟨B, hB, h⟩ := h
    unfold sliceOpen at h
    rw [cond_eq, Bool.and_eq_true, beq_true] at h
    obtain ⟨⟨hzz, hop⟩, h⟩ := h
    obtain ⟨f, hf⟩ : ∃ f, B.k = .opn f := by
      cases hk : B.k with
      | opn f => exact ⟨f, rfl⟩
      | _ => rw [hk] at hop; cases hop
    obtain ⟨c, fz, hO, hiz, hz1, hel, hko⟩ := hs.blk hB
    have hphys := hko.le hf
    generalize hkn : (Nat.mul (max B.room B.hi) B.z - off) / size = known at h
    have hknown : known ≤ capOf φ b off none := by
      rw [← hkn]
      show _ ≤ ((φ b).phys - off) / (φ b).z
      rw [hiz, ← hzz]
      exact Nat.div_le_div_right (Nat.sub_le_sub_right hphys _)
    have hcap : ∀ (l : Nat) φ', Agr st.next φ φ' → conc φ' (.slc b off len none) = u → capOf φ' b (off + l * size) none = capOf φ b off none - l := by
      intro l φ' h' _
      have hbl : b < st.next := hs.dom b _ (cellsOf_eq.1 hB).1
      show ((φ' b).phys - (off + l * size)) / (φ' b).z = ((φ b).phys - off) / (φ b).z - l
      rw [h' b hbl (hs.on b _ (cellsOf_eq.1 hB).1), hiz, hzz, Nat.sub_add_eq, sub_mul_div' _ _ _ h1]
    cases mx with
    | some x =>
      simp only [bnd_eq, cnd_eq, Bool.not_eq_true'] at h
      obtain ⟨m, hm, h', hh, l, hl, hni, hv⟩ := h
      simp only [Option.some.injEq] at hv
      subst hv
      have hne : hi ≠ none := fun e => by subst e; simp [isNone] at hni
      have hb := bounds_ok (P := P) (w := w) (isS := true) (c := capOf φ b off none) (len := len) (m := m) (h := h') (l := l) rlo rhi rmx
        (.inr ⟨known, by
          cases x <;> simp only [bound, reduceCtorEq, cnd_eq] at hm ⊢
          exact hm, by simp, hknown⟩)
        (by cases hi with
            | none => exact absurd rfl hne
            | some x => exact .inr ⟨m, hh, by simp, Nat.le_refl _⟩) hl (.inr hne)
      refine ⟨_, runIt l h' m hb, ?_⟩
      by_cases e : m = l
      · rw [if_pos e, beq_true.2 e, cnd_true]
        have := hx.slc (k := 0) (len' := h' - l) (c' := some (m - l)) (cap' := m - l) (fun _ _ _ => rfl)
        simpa [Addr.add] using this
      · have hne : Nat.beq m l = false := by
          cases hb : Nat.beq m l
          · rfl
          · exact absurd (beq_true.1 hb) e
        rw [if_neg e, hne, cnd_false]
        exact hx.slc (fun _ _ _ => rfl)
    | none =>
      simp only [bnd_eq, cnd_eq, Bool.and_eq_true, Bool.or_eq_true, ble_true, beq_true, blt_true] at h
      obtain ⟨h', hh, l, hl, ⟨hle, hll⟩, hv⟩ := h
      simp only [Option.some.injEq] at hv
      subst hv
      have hb := bounds_ok (P := P) (w := w) (isS := true) (c := capOf φ b off none) (len := len) (m := capOf φ b off none) (h := h') (l := l) rlo rhi rmx
        (.inl ⟨rfl, rfl⟩)
        (by cases hi with
            | none => exact .inl ⟨rfl, bound_none hh⟩
            | some x => exact .inr ⟨known, hh, by simp, hknown⟩) hl (.inl rfl)
      refine ⟨_, runIt l h' _ hb, ?_⟩
      have hr := hx.slc (k := l * size) (len' := h' - l) (c' := none) (hcap l)
      by_cases e : capOf φ b off none = l
      · have hl0 : l = 0 := by omega
        subst hl0
        rw [if_pos e]
        simpa [Addr.add] using hr
      · rw [if_neg e]; exact hr
end Go.AE

namespace Go.AE
open Go Go.RowKit

variable {P : Program} {φ : Emb} {w : World} {B0 : Nat} {st : St}

theorem sliceOp_ok (hs : Sim B0 φ st w) {t : TypeId} {x : AV} {lo hi mx : Option AV} {u : Value} {ulo uhi umx : Option Value} {v : AV} (h : sliceOp P st t x lo hi mx = some v)
    (hx : Rep st.next φ x u) (rlo : RepO st.next φ lo ulo) (rhi : RepO st.next φ hi uhi) (rmx : RepO st.next φ mx umx) : Gives P st.next φ w (Instr.sliceAt t u ulo uhi umx) v := by
  unfold sliceOp at h
  split at h
  · -- a string
    rename_i s hd
    rw [cond_eq, isNone_some] at h
    obtain ⟨rfl, h⟩ := h
    simp only [bnd_eq] at h
    obtain ⟨h', hh, l, hl, hv⟩ := h
    obtain rfl := Option.some.inj hv
    have hb := bounds_ok (P := P) (w := w) (isS := false) (c := s.length) (len := s.length) (m := s.length) (h := h') (l := l) rlo rhi rmx (.inl ⟨rfl, rfl⟩)
      (by cases hi with
          | none => exact .inl ⟨rfl, bound_none hh⟩
          | some x => exact .inr ⟨s.length, hh, by simp, Nat.le_refl _⟩) hl (.inl rfl)
    obtain rfl : umx = none := by cases umx with | none => rfl | some _ => exact rmx.elim
    have hle := lo_le hl
    refine ⟨_, ?_, Rep.str⟩
    rw [hx.str_inv]
    have hsz : (⟨s.toArray⟩ : ByteArray).size = s.length := by simp [ByteArray.size]
    simp only [Instr.sliceAt, Sem.run_bind, run_und hd, Result.andThen_ok, Instr.slice, Option.isSome_none, Bool.false_eq_true, if_false, Sem.run_pure, hsz, hb]
    congr 2
    apply ByteArray.ext
    rw [ByteArray.data_extract]
    simp [List.extract_eq_take_drop]
  · -- a nil slice
    rename_i e hd
    simp only [bnd_eq, cnd_eq, Bool.or_eq_true, isNone_some, Bool.not_eq_true'] at h
    obtain ⟨k, hk, m, hm, h', hh, l, hl, hok, hv⟩ := h
    obtain rfl := Option.some.inj hv
    have hm0 : m ≤ 0 := by
      cases mx with
      | none => rw [bound_none hm]; exact Nat.le_refl _
      | some y => cases y <;> simp only [bound, reduceCtorEq, cnd_eq, Bool.and_eq_true, decide_eq_true_eq, ble_true, Option.some.injEq] at hm; omega
    have hh0 : h' ≤ 0 := by
      cases hi with
      | none => rw [bound_none hh]; exact Nat.le_refl _
      | some y => cases y <;> simp only [bound, reduceCtorEq, cnd_eq, Bool.and_eq_true, decide_eq_true_eq, ble_true, Option.some.injEq] at hh; omega
    have hl0 := lo_le hl
    have hnn : mx = none ∨ hi ≠ none := by
      rcases hok with h | h
      · exact .inl h
      · exact .inr fun e => by subst e; simp [isNone] at h
    have hb := bounds_ok (P := P) (w := w) (isS := true) (c := 0) (len := 0) (m := m) (h := h') (l := l) rlo rhi rmx
      (by cases mx with
          | none => exact .inl ⟨rfl, bound_none hm⟩
          | some x => exact .inr ⟨0, hm, by simp, Nat.le_refl _⟩)
      (by cases hi with
          | none => exact .inl ⟨rfl, bound_none hh⟩
          | some x => exact .inr ⟨m, hh, by simp, Nat.le_refl _⟩) hl hnn
    obtain rfl : m = 0 := by omega
    obtain rfl : h' = 0 := by omega
    obtain rfl : l = 0 := by omega
    refine ⟨_, ?_, Rep.closed (v := .nils) fun _ => by rw [conc]⟩
    rw [show u = .slice none 0 0 by rw [← hx.now, conc]]
    simp only [Instr.sliceAt, Sem.run_bind, run_und hd, Result.andThen_ok, Instr.slice, hb, run_size hk, Sem.run_pure]
    rfl
  · -- a slice
    rename_i e b off len cap hd
    rw [bnd_eq] at h
    obtain ⟨size, hz, h⟩ := h
    rw [cnd_eq, ble_true] at h
    obtain ⟨u', hu', hr⟩ := sliceSlc_ok (P := P) hs hd hz h.1 h.2 hx rlo rhi rmx
    refine ⟨u', ?_, hr⟩
    simp only [Instr.sliceAt, Sem.run_bind, run_und hd, Result.andThen_ok]
    exact hu'
  · -- an array's address
    rename_i k e b off hd
    simp only [bnd_eq, cnd_eq, Bool.or_eq_true, isNone_some, Bool.not_eq_true'] at h
    obtain ⟨size, hz, m, hm, h', hh, l, hl, hok, hv⟩ := h
    obtain rfl := Option.some.inj hv
    have hnn : mx = none ∨ hi ≠ none := by
      rcases hok with h | h
      · exact .inl h
      · exact .inr fun e => by subst e; simp [isNone] at h
    have hb := bounds_ok (P := P) (w := w) (isS := false) (c := k) (len := k) (m := m) (h := h') (l := l) rlo rhi rmx
      (by cases mx with
          | none => exact .inl ⟨rfl, bound_none hm⟩
          | some x => exact .inr ⟨k, hm, by simp, Nat.le_refl _⟩)
      (by cases hi with
          | none => exact .inl ⟨rfl, bound_none hh⟩
          | some x => exact .inr ⟨m, hh, by simp, Nat.le_refl _⟩) hl hnn
    refine ⟨.slice (some (if m = l then caddr φ b off else (caddr φ b off).add (l * size))) (h' - l) (m - l), ?_, ?_⟩
    · rw [hx.ptr_inv]
      simp only [Instr.sliceAt, Sem.run_bind, run_und hd, Result.andThen_ok, Instr.sureAddr, Sem.run_pure, hb, run_size hz]
    · have key : ∀ k', Rep st.next φ (.slc b (off + k') (h' - l) (some (m - l))) (.slice (some ((caddr φ b off).add k')) (h' - l) (m - l)) := by
        intro k' φ' hφ'
        have h2 : Value.pointer (some (caddr φ' b (off + k'))) = .pointer (some ((caddr φ b off).add k')) := (hx.ptr_add (k := k')) φ' hφ'
        show Value.slice (some (caddr φ' b (off + k'))) _ (m - l) = _
        rw [Option.some.inj (Value.pointer.inj h2)]
      by_cases e : m = l
      · rw [if_pos e, beq_true.2 e, cnd_true]
        simpa [Addr.add] using key 0
      · have hne : Nat.beq m l = false := by
          cases hb : Nat.beq m l
          · rfl
          · exact absurd (beq_true.1 hb) e
        rw [if_neg e, hne, cnd_false]
        exact key _
  · cases h

/-! Reading memory -/
theorem caddr_add (φ : Emb) (b off k : Nat) : (caddr φ b off).add k = caddr φ b (off + k) := by
  unfold caddr; rw [addr_add, Nat.add_assoc]
theorem loadCells_ok (hs : Sim B0 φ st w) {b off k : Nat} {l : List AV} (h : loadCells st b off k = some l) :
    ∃ us : List Value, us.length = k ∧ l.length = k ∧ RepL st.next φ l us ∧ (Go.loadCells (caddr φ b off) k).run P w = .ok us.toArray w := by
  unfold loadCells at h
  rw [bnd_eq] at h
  obtain ⟨B, hB, hl⟩ := h
  obtain ⟨c, fz, hO, hz, hz1, hel, hko⟩ := hs.blk hB
  obtain ⟨h1, h2⟩ := Blk.load_ok hel hl
  refine ⟨l.map (conc φ), by simp [h1], h1, RepL.of_get (by simp) fun i a x ha hx => ?_, ?_⟩
  · obtain ⟨u, hu, ru⟩ := h2 i a ha
    rw [List.getElem?_map, ha] at hx
    simp only [Option.map_some, Option.some.injEq] at hx
    rw [← hx, ru.now]; exact ru
  · refine run_loadCells_from (P := P) hO (by simp [h1]) fun j u hu => ?_
    rw [List.getElem?_map] at hu
    cases ha : l[j]? with
    | none => rw [ha] at hu; cases hu
    | some a =>
      rw [ha] at hu
      simp only [Option.map_some, Option.some.injEq] at hu
      obtain ⟨u', hu', ru⟩ := h2 j a ha
      rw [Nat.add_assoc, hu', ← ru.now, hu]
theorem load1_ok (hs : Sim B0 φ st w) {b off : Nat} {v : AV} (h : load1 st b off = some v) : ∃ u, w.cell? (caddr φ b off) = some u ∧ Rep st.next φ v u := by
  unfold load1 at h
  rw [bnd_eq] at h
  obtain ⟨B, hB, h⟩ := h
  rw [bnd_eq] at h
  obtain ⟨l, hl, hv⟩ := h
  obtain ⟨c, fz, hO, hz, hz1, hel, hko⟩ := hs.blk hB
  simp only [Blk.el, cnd_eq, blt_true] at hl
  obtain ⟨hlt, hl⟩ := hl
  obtain ⟨l', hl', hlen, hc⟩ := hel _ hlt
  rw [hl] at hl'; obtain rfl := Option.some.inj hl'
  rw [nth_eq] at hv
  obtain ⟨u, hu, ru⟩ := hc _ _ hv
  refine ⟨u, ?_, ru⟩
  unfold caddr
  rw [cell_of hO, ← hu]
  congr 2
  have := Nat.div_add_mod off B.z
  have h1 : B.z * (off / B.z) = Nat.div off B.z * B.z := Nat.mul_comm _ _
  have h2 : off % B.z = Nat.mod off B.z := rfl
  omega
theorem loadVar_ok (hs : Sim B0 φ st w) {t : TypeId} {b off : Nat} {v : AV} (h : loadVar P st t b off = some v) : Gives P st.next φ w (Go.loadVar t (caddr φ b off)) v := by
  unfold loadVar at h
  rw [bnd_eq] at h
  obtain ⟨g, hg, h⟩ := h
  simp only [Gives, Go.loadVar, Sem.run_bind, run_isAgg hg, Result.andThen_ok]
  cases g with
  | true =>
    simp only [cond_true, bnd_eq] at h
    obtain ⟨k, hk, l, hl, hv⟩ := h
    obtain rfl := Option.some.inj hv
    obtain ⟨us, _, _, hr, hrun⟩ := loadCells_ok (P := P) hs hl
    refine ⟨.agg us.toArray, ?_, Rep.agg hr⟩
    simp only [if_true, Sem.run_bind, run_size hk, Result.andThen_ok, hrun, Sem.run_pure]
  | false =>
    simp only [cond_false] at h
    obtain ⟨u, hu, hr⟩ := load1_ok hs h
    refine ⟨u, ?_, hr⟩
    simp [hu]
theorem load_ok (hs : Sim B0 φ st w) {t : TypeId} {a v : AV} {u : Value} {st' : St} (h : oLoad P t a st = some (v, st')) (ha : Rep st.next φ a u) : st' = st ∧ Gives P st.next φ w (Instr.loadAt t u) v := by
  unfold oLoad at h
  split at h
  · simp only [bnd_eq, pairS, Option.some.injEq, Prod.mk.injEq] at h
    obtain ⟨v', hv, rfl, rfl⟩ := h
    obtain ⟨u', hu, hr⟩ := loadVar_ok (P := P) hs hv
    refine ⟨rfl, u', ?_, hr⟩
    rw [ha.ptr_inv]
    simp [Instr.loadAt, Instr.sureAddr, hu]
  · cases h
end Go.AE

namespace Go.AE
open Go Go.RowKit

variable {P : Program} {φ : Emb} {w : World} {B0 : Nat} {st : St}

/-- What an operation comes to: it yields a value (or nothing), the state behind it is held by the world behind it. -/
def Ok (P : Program) (B0 : Nat) (φ : Emb) (st : St) (w : World) (s : Sem Next) (v : AV) (st' : St) : Prop :=
  ∃ φ' w' nx u, s.run P w = .ok nx w' ∧ (nx = .value u ∨ nx = .skip ∧ u = Go.undef) ∧ Post B0 φ st w φ' st' w' ∧ Rep st'.next φ' v u
/-- The same, of a value's computation. -/
def OkV (P : Program) (B0 : Nat) (φ : Emb) (st : St) (w : World) (s : Sem Value) (v : AV) (st' : St) : Prop :=
  ∃ φ' w' u, s.run P w = .ok u w' ∧ Post B0 φ st w φ' st' w' ∧ Rep st'.next φ' v u
theorem OkV.ok {s : Sem Value} {v : AV} {st' : St} (h : OkV P B0 φ st w s v st') : Ok P B0 φ st w (do pure (.value (← s))) v st' := by
  obtain ⟨φ', w', u, h1, h2, h3⟩ := h
  exact ⟨φ', w', .value u, u, by simp [h1], .inl rfl, h2, h3⟩
theorem Gives.okV (hs : Sim B0 φ st w) {s : Sem Value} {v : AV} (h : Gives P st.next φ w s v) : OkV P B0 φ st w s v st := by
  obtain ⟨u, h1, h2⟩ := h
  exact ⟨φ, w, u, h1, Post.refl hs, h2⟩

/-! Rows -/
theorem chunks_ok {α : Type} (z : Nat) : ∀ (n : Nat) (l : List α) (es : List (List α)), chunks z n l = some es →
    l.length = n * z ∧ es.length = n ∧ ∀ (i : Nat) (a : List α), es[i]? = some a → a.length = z ∧ ∀ r, r < z → a[r]? = l[i * z + r]?
  | 0, [], es, h => by simp only [chunks, Option.some.injEq] at h; subst h; simp
  | 0, _ :: _, es, h => by simp [chunks] at h
  | n + 1, l, es, h => by
    simp only [chunks, bnd_eq, Option.some.injEq] at h
    obtain ⟨a, ha, r, hr, rfl⟩ := h
    obtain ⟨hle, rfl⟩ := (takeN_eq _ _ _).1 ha
    obtain ⟨h1, h2, h3⟩ := chunks_ok z n _ r hr
    rw [List.length_drop] at h1
    refine ⟨by rw [Nat.add_mul, Nat.one_mul]; omega, by simp [h2], fun i b hb => ?_⟩
    cases i with
    | zero =>
      simp only [List.getElem?_cons_zero, Option.some.injEq] at hb
      subst hb
      exact ⟨by simp; omega, fun r hr => by rw [List.getElem?_take, if_pos hr]; simp⟩
    | succ i =>
      simp only [List.getElem?_cons_succ] at hb
      obtain ⟨g1, g2⟩ := h3 i b hb
      refine ⟨g1, fun r hr => ?_⟩
      rw [g2 r hr, List.getElem?_drop]
      congr 1
      rw [Nat.add_mul, Nat.one_mul]; omega
theorem setEls_get : ∀ (es : List (List AV)) (t : T (List AV)) (i j : Nat), (setEls t i es).get j = if i ≤ j ∧ j < i + es.length then es[j - i]? else t.get j
  | [], t, i, j => by rw [setEls, if_neg (by simp)]
  | a :: r, t, i, j => by
    rw [setEls, setEls_get r]
    simp only [List.length_cons]
    by_cases h : i = j
    · subst h
      rw [if_neg (by omega), if_pos (by omega), T.get_set_same]; simp
    · rw [T.get_set_ne _ _ (Ne.symm h)]
      by_cases h2 : Nat.succ i ≤ j ∧ j < Nat.succ i + r.length
      · rw [if_pos h2, if_pos (by omega)]
        obtain ⟨k, rfl⟩ : ∃ k, j = i + 1 + k := ⟨j - (i + 1), by omega⟩
        rw [show i + 1 + k - Nat.succ i = k from by omega, show i + 1 + k - i = k + 1 from by omega]; simp
      · rw [if_neg h2, if_neg (by omega)]
theorem row_el {m : Nat} {ψ : Emb} {z n : Nat} {l : List AV} {es : List (List AV)} (hc : chunks z n l = some es) {us : List Value} (hr : RepL m ψ l us) {c : Array Value} {im : Img}
    (hu : ∀ (j : Nat) (u : Value), us[j]? = some u → c[im.add + j]? = some u) {B : Blk} (ht : B.t = setEls .nil 0 es) (hz : B.z = z) (hh : B.hi = n) : ElOk m ψ im B c := by
  obtain ⟨h1, h2, h3⟩ := chunks_ok z n l es hc
  intro i hi
  rw [hh] at hi
  obtain ⟨a, ha⟩ : ∃ a, es[i]? = some a := ⟨es[i], by simp⟩
  obtain ⟨g1, g2⟩ := h3 i a ha
  refine ⟨a, by rw [ht, setEls_get, if_pos (by omega)]; exact ha, by rw [hz]; exact g1, fun r x hx => ?_⟩
  have hrz : r < z := by rw [← g1]; exact (List.getElem?_eq_some_iff.1 hx).1
  rw [g2 r hrz] at hx
  obtain ⟨u, hu1, hu2⟩ := hr.get hx
  rw [hz]
  exact ⟨u, hu _ u hu1, hu2⟩

/-- A new row of cells. -/
theorem newBlk_ok (hs : Sim B0 φ st w) {B : Blk} {cs : List Value} (hk : B.k = .rw) (hz : 1 ≤ B.z) (hsz : cs.length = B.hi * B.z)
    (hel : ∀ ψ, Agr st.next φ ψ → ElOk (st.next + 1) ψ ⟨w.heap.size, 0, cs.length, B.z⟩ B cs.toArray) :
    ∃ φ', Post B0 φ st w φ' (st.push (.cells B)) (w.alloc (.cells cs.toArray B.e)) ∧ (φ' st.next).blk = w.heap.size ∧ (φ' st.next).add = 0 ∧ (φ' st.next).z ≠ 0 := by
  obtain ⟨hp, fams, nx⟩ := st
  refine ⟨upd φ nx ⟨w.heap.size, 0, cs.length, B.z⟩, ?_, by rw [upd_same], by rw [upd_same], by rw [upd_same]; dsimp only; omega⟩
  have := Post.alloc (w' := w.alloc (.cells cs.toArray B.e)) (o := .cells B) (O := .cells cs.toArray B.e) (fams' := fams) hs (im := ⟨w.heap.size, 0, cs.length, B.z⟩) rfl rfl rfl rfl rfl
    (.inl ⟨by simp [AObj.fam, hk], rfl⟩) ⟨cs.toArray, (0, 0), rfl, rfl, hz, hel _ (agr_upd _ _ _), by simp [KindOk, hk, hsz]⟩
  exact this
theorem Rep.ptr_new {n : Nat} {ψ : Emb} {b : Nat} {g : Nat} (hb : b < n) (ho : (ψ b).z ≠ 0) (h1 : (ψ b).blk = g) (h2 : (ψ b).add = 0) : Rep n ψ (.ptr b 0) (.pointer (some ⟨g, 0, none⟩)) := by
  intro ψ' h'
  rw [conc, caddr, h' b hb ho, h1, h2]
theorem Rep.slc_new {n : Nat} {ψ : Emb} {b : Nat} {g len c : Nat} (hb : b < n) (ho : (ψ b).z ≠ 0) (h1 : (ψ b).blk = g) (h2 : (ψ b).add = 0) : Rep n ψ (.slc b 0 len (some c)) (.slice (some ⟨g, 0, none⟩) len c) := by
  intro ψ' h'
  rw [conc, caddr, h' b hb ho, h1, h2]; rfl
theorem Rep.map_new {n : Nat} {ψ : Emb} {b : Nat} {g : Nat} (hb : b < n) (ho : (ψ b).z ≠ 0) (h1 : (ψ b).blk = g) : Rep n ψ (.map b) (.map (some g)) := by
  intro ψ' h'
  rw [conc, h' b hb ho, h1]
theorem push_next (st : St) (o : AObj) : (st.push o).next = st.next + 1 := by cases st; rfl

theorem oBox_ok (hs : Sim B0 φ st w) {e : TypeId} {v r : AV} {u : Value} {o : AObj} (h : oBox e v st.next = some (r, o)) (hv : Rep st.next φ v u) :
    OkV P B0 φ st w (do pure (.pointer (some (← newVar e u)))) r (st.push o) := by
  unfold oBox at h
  rw [cnd_eq, Bool.and_eq_true, ble_true] at h
  obtain ⟨⟨_, hl⟩, h⟩ := h
  obtain ⟨rfl, rfl⟩ := Prod.mk.inj (Option.some.inj h)
  have hc := hv.cells
  have hlen := hc.length
  obtain ⟨φ', hp, h1, h2, h3⟩ := newBlk_ok (B := ⟨e, v.cells.length, T.nil.set 0 v.cells, 1, 1, .rw⟩) (cs := u.cells.toList) hs rfl hl (by simpa using hlen)
    (fun ψ hψ i hi => by
      obtain rfl : i = 0 := by simp at hi; omega
      refine ⟨v.cells, by show (T.nil.set 0 v.cells).get 0 = _; exact T.get_set_same _ _ _, rfl, fun k a ha => ?_⟩
      obtain ⟨x, hx, rx⟩ := hc.get ha
      refine ⟨x, ?_, rx.mono (Nat.le_succ _) hψ⟩
      simpa using hx)
  refine ⟨φ', _, _, ?_, hp, Rep.ptr_new (g := w.heap.size) (by rw [push_next]; omega) h3 h1 h2⟩
  simp [newVar, newRow]
theorem oAlloc_ok (hs : Sim B0 φ st w) {e : TypeId} {r : AV} {o : AObj} (h : oAlloc P e st.next = some (r, o)) : OkV P B0 φ st w (Instr.alloc e true (.tuple #[])) r (st.push o) := by
  unfold oAlloc at h
  rw [bnd_eq] at h
  obtain ⟨z, hz, h⟩ := h
  obtain ⟨uz, hz1, hz2⟩ := run_zero hz w
  obtain ⟨φ', w', u, h1, h2, h3⟩ := oBox_ok (P := P) hs h (Rep.closed hz2)
  refine ⟨φ', w', u, ?_, h2, h3⟩
  simp only [Instr.alloc, Sem.run_bind, hz1, Result.andThen_ok] at h1 ⊢
  exact h1
theorem rowOf_eq {e : TypeId} {z n : Nat} {cs : List AV} {k : Kind} {o : AObj} (h : rowOf e z n cs k = some o) : ∃ es, chunks z n cs = some es ∧ o = .cells ⟨e, z, setEls .nil 0 es, n, n, k⟩ := by
  unfold rowOf at h
  rw [bnd_eq] at h
  obtain ⟨es, h1, h2⟩ := h
  exact ⟨es, h1, (Option.some.inj h2).symm⟩
theorem rep_len {α : Type} (l : List α) : ∀ n, (rep n l).length = n * l.length
  | 0 => by simp [rep]
  | n + 1 => by rw [rep, List.length_append, rep_len l n, Nat.add_mul, Nat.one_mul, Nat.add_comm]
theorem RepL.rep {n : Nat} {φ : Emb} {l : List AV} {us : List Value} (h : RepL n φ l us) : ∀ k, RepL n φ (rep k l) (Go.AE.rep k us)
  | 0 => RepL.nil
  | k + 1 => h.append (RepL.rep h k)
/-- The zero cells that the model lays are the zero cells repeated. -/
theorem rep_get {α : Type} (l : List α) (hl : 1 ≤ l.length) : ∀ (n i : Nat), i < n * l.length → (rep n l)[i]? = l[i % l.length]?
  | 0, i, h => by omega
  | n + 1, i, h => by
    rw [rep]
    by_cases hi : i < l.length
    · rw [List.getElem?_append_left hi, Nat.mod_eq_of_lt hi]
    · rw [List.getElem?_append_right (by omega), rep_get l hl n _ (by rw [Nat.add_mul, Nat.one_mul] at h; omega)]
      congr 1
      rw [← Nat.mod_eq_sub_mod (by omega)]
theorem zeros_eq (zs : Array Value) (hz : 1 ≤ zs.size) (n : Nat) : ((Array.range (n * zs.size)).map fun i => zs[i % zs.size]!) = (rep n zs.toList).toArray := by
  apply Array.ext_getElem?
  intro i
  simp only [Array.getElem?_map, List.getElem?_toArray]
  by_cases hi : i < n * zs.size
  · rw [rep_get zs.toList (by simpa using hz) n i (by simpa using hi)]
    have hm : i % zs.size < zs.size := Nat.mod_lt _ (by omega)
    have : (Array.range (n * zs.size))[i]? = some i := by simp [hi]
    rw [this]
    simp [hm]
  · have : (Array.range (n * zs.size))[i]? = none := by simp; omega
    rw [this, List.getElem?_eq_none (by rw [rep_len]; simp; omega)]; rfl
theorem oBuildSlice_ok (hs : Sim B0 φ st w) {t : TypeId} {len : Nat} {ps : List (Nat × AV)} {qs : List (Nat × Value)} {r : AV} {o : AObj}
    (h : oBuildSlice P t len ps st.next = some (r, o)) (hp : RepPs st.next φ ps qs) : OkV P B0 φ st w (Instr.buildSlice t len qs.toArray) r (st.push o) := by
  unfold oBuildSlice at h
  split at h
  · rename_i e hd
    simp only [bnd_eq, cond_eq, Bool.and_eq_true, beq_true, ble_true] at h
    obtain ⟨k, hk, z, hz, ⟨⟨⟨hk1, hzl⟩, hbig⟩, _⟩, cs, hcs, o', ho, h⟩ := h
    obtain ⟨rfl, rfl⟩ := Prod.mk.inj (Option.some.inj h)
    obtain ⟨uz, hz1, hz2⟩ := run_zero hz w
    have hzc : RepL st.next φ z.cells uz.cells.toList := (Rep.closed (n := st.next) (φ := φ) hz2).cells
    have hul : uz.cells.size = k := by have := hzc.length; simp at this; omega
    obtain ⟨us, hf, hr⟩ := fill_ok hcs hp (hzc.rep len)
    obtain ⟨es, hes, rfl⟩ := rowOf_eq ho
    have hlen : us.length = len * k := by rw [hr.length]; exact (chunks_ok _ _ _ _ hes).1
    obtain ⟨φ', hpost, h1, h2, h3⟩ := newBlk_ok (B := ⟨e, k, setEls .nil 0 es, len, len, .rw⟩) (cs := us) hs rfl hk1 hlen
      (fun ψ hψ => row_el hes (hr.mono (Nat.le_succ _) hψ) (by intro j u hu; simpa using hu) rfl rfl rfl)
    refine ⟨φ', _, _, ?_, hpost, Rep.slc_new (g := w.heap.size) (by rw [push_next]; omega) h3 h1 h2⟩
    have hbig' : ¬ len * k > 2 ^ 24 := by
      have : Nat.mul len k = len * k := rfl
      omega
    have hzero : (Array.range (len * k)).map (fun i => uz.cells[i % uz.cells.size]!) = (rep len uz.cells.toList).toArray := by
      have := zeros_eq uz.cells (by omega) len
      rwa [hul] at this ⊢
    have hf' : Instr.fill (fun i => some (i * k, k)) (rep len uz.cells.toList).toArray qs = some us.toArray := hf
    by_cases hlk : len * k = 0
    · have hl0 : len = 0 := by
        rcases Nat.mul_eq_zero.1 hlk with h | h
        · exact h
        · omega
      subst hl0
      simp only [rep] at hf'
      have hr0 : Array.map (fun _ => (default : Value)) (Array.range 0) = #[] := by simp
      simp [Instr.buildSlice, run_und hd, run_size hk, hr0, hf', newRow]
    · simp only [Instr.buildSlice, Sem.run_bind, run_und hd, run_size hk, Result.andThen_ok, if_neg hbig', if_neg hlk, Sem.run_pure, hz1]
      simp [hzero, hf', newRow]
  · cases h
theorem makeMap_ok (hs : Sim B0 φ st w) {t : TypeId} : OkV P B0 φ st w (Instr.makeMap t none) (.map st.next) (st.push (.map [])) := by
  obtain ⟨hp, fams, nx⟩ := st
  have := Post.alloc (w' := w.alloc (.map #[] 0)) (o := .map []) (O := .map #[] 0) (fams' := fams) hs (im := ⟨w.heap.size, 0, 0, 1⟩) rfl rfl rfl rfl rfl
    (.inl ⟨rfl, rfl⟩) ⟨#[], 0, rfl, by simp [EntsOk]⟩
  refine ⟨_, _, _, ?_, this, Rep.map_new (g := w.heap.size) (Nat.lt_succ_self _) (by rw [upd_same]; simp) (by rw [upd_same])⟩
  simp [Instr.makeMap]
theorem makeSlice_ok (hs : Sim B0 φ st w) {t : TypeId} {l c r : AV} {ul uc : Value} {st' : St} (h : oMakeSlice P t l c st = some (r, st')) (hl : Rep st.next φ l ul) (hc : Rep st.next φ c uc) :
    OkV P B0 φ st w (Instr.makeSlice t ul uc) r st' := by
  unfold oMakeSlice at h
  split at h
  · rename_i e k1 l k2 c hd
    simp only [bnd_eq, cond_eq, Bool.and_eq_true, beq_true, ble_true, Bool.not_eq_true', iltb_eq, decide_eq_false_iff_not] at h
    obtain ⟨k, hk, by', hby, z, hz, ⟨⟨⟨⟨⟨⟨hl0, hcl⟩, hc1⟩, hb1⟩, hk1⟩, hzl⟩, _⟩, o', ho, h⟩ := h
    obtain ⟨rfl, rfl⟩ := Prod.mk.inj (Option.some.inj h)
    obtain ⟨uz, hz1, hz2⟩ := run_zero hz w
    have hzc : RepL st.next φ z.cells uz.cells.toList := (Rep.closed (n := st.next) (φ := φ) hz2).cells
    have hul : uz.cells.size = k := by have := hzc.length; simp at this; omega
    obtain ⟨es, hes, rfl⟩ := rowOf_eq ho
    have hr := hzc.rep c.toNat
    have hlen : (rep c.toNat uz.cells.toList).length = c.toNat * k := by rw [rep_len]; simp [hul]
    obtain ⟨φ', hpost, h1, h2, h3⟩ := newBlk_ok (B := ⟨e, k, setEls .nil 0 es, c.toNat, c.toNat, .rw⟩) (cs := rep c.toNat uz.cells.toList) hs rfl hk1 hlen
      (fun ψ hψ => row_el hes (hr.mono (Nat.le_succ _) hψ) (by intro j u hu; simpa using hu) rfl rfl rfl)
    refine ⟨φ', _, _, ?_, hpost, Rep.slc_new (g := w.heap.size) (by rw [push_next]; omega) h3 h1 h2⟩
    rw [hl.int_inv, hc.int_inv]
    have hcw : IntKind.i64.wrap c = c := IntWalk.i64_in _ (by omega)
    have hlw : IntKind.i64.wrap l = l := IntWalk.i64_in _ (by omega)
    obtain ⟨inf, hinf, hib⟩ : ∃ i, P.info? e = some i ∧ i.bytes = by' := by
      unfold bytesT at hby
      cases hi : P.info? e with
      | none => rw [hi] at hby; cases hby
      | some i => rw [hi] at hby; exact ⟨i, rfl, by simpa using hby⟩
    have hc0 : (0 : Int) ≤ c := by omega
    have hnot : (decide (c < 0) || decide ((inf.bytes : Int) * c > 2 ^ 48)) = false := by
      have h3 : (inf.bytes : Int) * c ≤ 65536 * 1073741824 := by
        have e1 : (inf.bytes : Int) ≤ 65536 := by omega
        have e2 : c ≤ 1073741824 := by omega
        exact Int.mul_le_mul e1 e2 hc0 (by omega)
      have h4 : ¬ ((inf.bytes : Int) * c > 2 ^ 48) := by
        have : (2 : Int) ^ 48 = 281474976710656 := by decide
        omega
      have h5 : ¬ c < 0 := by omega
      simp only [h4, h5, decide_false, Bool.or_self]
    have hno2 : decide (l < 0) = false := by simpa using (show ¬ l < 0 from hl0)
    have hno3 : decide (l > c) = false := by simp; omega
    have hzero : (Array.range (c.toNat * k)).map (fun i => uz.cells[i % uz.cells.size]!) = (rep c.toNat uz.cells.toList).toArray := by
      have := zeros_eq uz.cells (by omega) c.toNat
      rwa [hul] at this ⊢
    simp only [Instr.makeSlice, Sem.run_bind, run_und hd, Result.andThen_ok, asInt, asIntOf, Sem.run_pure, run_info hinf, hcw, hlw, hnot, hno2, hno3, Bool.or_self, Bool.false_eq_true, if_false, run_askRoom, run_size hk]
    by_cases hck : c.toNat * k = 0
    · have hl0 : c.toNat = 0 := by
        rcases Nat.mul_eq_zero.1 hck with h | h
        · exact h
        · omega
      have hr0 : Array.map (fun _ => (default : Value)) (Array.range 0) = #[] := by simp
      simp [hl0, newRow, rep, hr0]
    · simp only [if_neg hck, Sem.run_bind, hz1, Result.andThen_ok, Sem.run_pure]
      simp [hzero, newRow]
  · cases h
end Go.AE

namespace Go.AE
open Go Go.RowKit

variable {P : Program} {φ : Emb} {w : World} {B0 : Nat} {st : St}

theorem setT_fields (B : Blk) (t : T (List AV)) : (B.setT t).e = B.e ∧ (B.setT t).z = B.z ∧ (B.setT t).hi = B.hi ∧ (B.setT t).room = B.room ∧ (B.setT t).k = B.k ∧ (B.setT t).t = t := by cases B; exact ⟨rfl, rfl, rfl, rfl, rfl, rfl⟩
theorem Blk.store_ok {B B' : Blk} {off : Nat} {vs : List AV} (h : B.store off vs = some B') (hne : vs ≠ []) (_hz : 1 ≤ B.z) (hel : ∀ i, i < B.hi → ∃ l, B.t.get i = some l ∧ l.length = B.z) :
    B'.e = B.e ∧ B'.z = B.z ∧ B'.hi = B.hi ∧ B'.room = B.room ∧ B'.k = B.k ∧ off + vs.length ≤ B.hi * B.z ∧
    ∀ i l, i < B.hi → B.t.get i = some l → ∃ l', B'.t.get i = some l' ∧ l'.length = B.z ∧
      ∀ r, r < B.z → l'[r]? = if off ≤ i * B.z + r ∧ i * B.z + r < off + vs.length then vs[i * B.z + r - off]? else l[r]? := by
  unfold Blk.store at h
  have hpos : 1 ≤ vs.length := by cases vs with | nil => exact absurd rfl hne | cons => simp
  have hdm := Nat.div_add_mod off B.z
  have hmc : B.z * (off / B.z) = off / B.z * B.z := Nat.mul_comm _ _
  have e1 : Nat.mod off B.z = off % B.z := rfl
  have e2 : Nat.div off B.z = off / B.z := rfl
  rw [e1, e2] at h
  cases h1 : Nat.ble (Nat.add (off % B.z) vs.length) B.z with
  | true =>
    rw [h1] at h
    simp only [cond_true, bnd_eq] at h
    obtain ⟨l0, hl0, l1, hl1, hB⟩ := h
    obtain rfl := Option.some.inj hB
    simp only [Blk.el, cnd_eq, blt_true] at hl0
    obtain ⟨hlt, hl0⟩ := hl0
    have h1' : off % B.z + vs.length ≤ B.z := ble_true.1 h1
    obtain ⟨f1, f2, f3, f4, f5, f6⟩ := setT_fields B (B.t.set (off / B.z) l1)
    obtain ⟨l0', hl0', hlen0⟩ := hel _ hlt
    rw [hl0] at hl0'; obtain rfl := Option.some.inj hl0'
    obtain ⟨g1, g2, g3⟩ := overAt_eq _ _ _ _ hl1
    have hbound : off + vs.length ≤ B.hi * B.z := by
      have : (off / B.z + 1) * B.z ≤ B.hi * B.z := Nat.mul_le_mul_right _ hlt
      rw [Nat.add_mul, Nat.one_mul] at this; omega
    refine ⟨f1, f2, f3, f4, f5, hbound, fun i l hi hl => ?_⟩
    rw [f6]
    by_cases e : i = off / B.z
    · subst e
      rw [hl0] at hl; obtain rfl := Option.some.inj hl
      refine ⟨l1, T.get_set_same _ _ _, by rw [g1, hlen0], fun r hr => ?_⟩
      rw [g3 r]
      by_cases c : off % B.z ≤ r ∧ r < off % B.z + vs.length
      · rw [if_pos c, if_pos (by omega)]; congr 1; omega
      · rw [if_neg c, if_neg (by omega)]
    · refine ⟨l, by rw [T.get_set_ne _ _ e]; exact hl, by obtain ⟨l', h1', h2'⟩ := hel i hi; rw [hl] at h1'; obtain rfl := Option.some.inj h1'; exact h2', fun r hr => ?_⟩
      rw [if_neg]
      rintro ⟨c1, c2⟩
      rcases Nat.lt_or_gt_of_ne e with h | h
      · have : (i + 1) * B.z ≤ off / B.z * B.z := Nat.mul_le_mul_right _ h
        rw [Nat.add_mul, Nat.one_mul] at this; omega
      · have : (off / B.z + 1) * B.z ≤ i * B.z := Nat.mul_le_mul_right _ h
        rw [Nat.add_mul, Nat.one_mul] at this; omega
  | false =>
    rw [h1] at h
    simp only [cond_false, cond_eq, Bool.and_eq_true, beq_true, ble_true, bnd_eq] at h
    obtain ⟨⟨hm, hle⟩, es, hes, hB⟩ := h
    obtain rfl := Option.some.inj hB
    obtain ⟨c1, c2, c3⟩ := chunks_ok _ _ _ _ hes
    obtain ⟨f1, f2, f3, f4, f5, f6⟩ := setT_fields B (setEls B.t (off / B.z) es)
    have hvl : vs.length = Nat.div vs.length B.z * B.z := c1
    have hoff : off = off / B.z * B.z := by omega
    generalize hq : off / B.z = q at *
    generalize hk : Nat.div vs.length B.z = k at *
    have hle' : q + k ≤ B.hi := hle
    have hbound : off + vs.length ≤ B.hi * B.z := by
      have : (q + k) * B.z ≤ B.hi * B.z := Nat.mul_le_mul_right _ hle'
      rw [Nat.add_mul] at this; omega
    refine ⟨f1, f2, f3, f4, f5, hbound, fun i l hi hl => ?_⟩
    rw [f6, setEls_get]
    by_cases e : q ≤ i ∧ i < q + es.length
    · rw [if_pos e]
      obtain ⟨a, ha⟩ : ∃ a, es[i - q]? = some a := ⟨es[i - q], by simp⟩
      obtain ⟨d1, d2⟩ := c3 _ a ha
      refine ⟨a, ha, d1, fun r hr => ?_⟩
      rw [d2 r hr]
      obtain ⟨j, rfl⟩ : ∃ j, i = q + j := ⟨i - q, by omega⟩
      have ej : (q + j) * B.z = q * B.z + j * B.z := Nat.add_mul _ _ _
      have hjk : j < k := by omega
      have : (j + 1) * B.z ≤ k * B.z := Nat.mul_le_mul_right _ hjk
      rw [Nat.add_mul, Nat.one_mul] at this
      rw [if_pos (by omega)]
      congr 1
      rw [show q + j - q = j from by omega]; omega
    · rw [if_neg e]
      refine ⟨l, hl, by obtain ⟨l', h1', h2'⟩ := hel i hi; rw [hl] at h1'; obtain rfl := Option.some.inj h1'; exact h2', fun r hr => ?_⟩
      rw [if_neg]
      rintro ⟨x1, x2⟩
      by_cases hlt : i < q
      · have : (i + 1) * B.z ≤ q * B.z := Nat.mul_le_mul_right _ hlt
        rw [Nat.add_mul, Nat.one_mul] at this; omega
      · have : (q + k) * B.z ≤ i * B.z := Nat.mul_le_mul_right _ (by omega)
        rw [Nat.add_mul] at this; omega
theorem allPlain_oneCell {n : Nat} {vs : List AV} {us : List Value} (h : vs.all AV.plain = true) (hr : RepL n φ vs us) : ∀ u ∈ us, u.oneCell' = true := by
  intro u hu
  obtain ⟨i, hi, rfl⟩ := List.mem_iff_getElem.1 hu
  have hiv : i < vs.length := by rw [← hr.length]; exact hi
  obtain ⟨x, hx, rx⟩ := hr.get (i := i) (a := vs[i]) (by simp)
  have : us[i]? = some us[i] := by simp
  rw [this] at hx
  obtain rfl := Option.some.inj hx
  have hp := rx.plain (List.all_eq_true.1 h _ (List.getElem_mem hiv))
  cases hv : us[i] <;> first | rfl | (exact absurd hv (hp.1 _)) | (exact absurd hv (hp.2 _))
theorem storeCells_ok (hs : Sim B0 φ st w) {b off : Nat} {vs : List AV} {us : List Value} {st' : St} (h : storeCells st b off vs = some st') (hr : RepL st.next φ vs us) :
    ∃ w', (Go.storeCells (caddr φ b off) us).run P w = .ok () w' ∧ Post B0 φ st w φ st' w' ∧ st'.next = st.next := by
  cases vs with
  | nil =>
    simp only [storeCells, Option.some.injEq] at h
    subst h
    have : us = [] := by have := hr.length; simpa using this
    subst this
    exact ⟨w, rfl, Post.refl hs, rfl⟩
  | cons v vs =>
    simp only [storeCells, cnd_eq, bnd_eq] at h
    obtain ⟨hp, B, hB, h⟩ := h
    obtain ⟨hb, hseen⟩ := cellsOf_eq.1 hB
    obtain ⟨c, fz, hO, hz, hz1, hel, hko⟩ := hs.blk hB
    have hel0 : ∀ i, i < B.hi → ∃ l, B.t.get i = some l ∧ l.length = B.z := fun i hi => let ⟨l, h1, h2, _⟩ := hel i hi; ⟨l, h1, h2⟩
    have key : ∀ B', B.store off (v :: vs) = some B' → (∀ j, j < c.size → ¬ (fz.1 ≤ j ∧ j < fz.2)) → B.hi * B.z + (φ b).add ≤ c.size →
        (Go.storeCells (caddr φ b off) us).run P w = .ok () (setBlk w (φ b).blk (.cells (ovr c ((φ b).add + off) us) B.e fz)) ∧
        BlkOk st.next φ (φ b) B' (some (.cells (ovr c ((φ b).add + off) us) B.e fz)) ∧ B'.e = B.e ∧ B'.z = B.z ∧ B'.hi = B.hi ∧ B'.k = B.k := by
      intro B' hst hfz hcs
      obtain ⟨s1, s2, s3, s4, s5, s6, s7⟩ := Blk.store_ok hst (by simp) hz1 hel0
      have hlen := hr.length
      have hle : (φ b).add + off + us.length ≤ c.size := by rw [hlen]; omega
      refine ⟨?_, ⟨_, fz, by rw [s1], by rw [s2]; exact hz, by rw [s2]; exact hz1, ?_, ?_⟩, s1, s2, s3, s5⟩
      · have := run_storeCells (P := P) us 0 c w hO (by simpa using hle) (fun j hj => hfz _ (by omega)) (allPlain_oneCell hp hr)
        simpa [caddr] using this
      · intro i hi
        rw [s3] at hi
        obtain ⟨l, h1, h2, h3⟩ := hel i hi
        obtain ⟨l', t1, t2, t3⟩ := s7 i l hi h1
        refine ⟨l', t1, by rw [t2, s2], fun r a ha => ?_⟩
        have hrz : r < B.z := by rw [← t2]; exact (List.getElem?_eq_some_iff.1 ha).1
        rw [t3 r hrz] at ha
        rw [s2, ovr_get _ _ _ _ hle, hlen]
        by_cases e : off ≤ i * B.z + r ∧ i * B.z + r < off + (v :: vs).length
        · rw [if_pos e] at ha
          rw [if_pos (by omega)]
          obtain ⟨x, hx, rx⟩ := hr.get ha
          refine ⟨x, ?_, rx⟩
          rw [← hx]; congr 1; omega
        · rw [if_neg e] at ha
          rw [if_neg (by omega)]
          exact h3 r a ha
      · unfold KindOk at hko ⊢
        rw [s5]
        simp only [ovr_size, s3, s2, s4]
        exact hko
    unfold storeIn at h
    split at h
    · cases h
    · rename_i hk
      simp only [bnd_eq] at h
      obtain ⟨B', hst, hv⟩ := h
      obtain rfl := Option.some.inj hv
      have hko' := hko
      unfold KindOk at hko'
      rw [hk] at hko'
      obtain ⟨ha0, hcs, rfl⟩ := hko'
      obtain ⟨r1, r2, r3, r4, r5, r6⟩ := key B' hst (fun j _ h => absurd h.2 (Nat.not_lt_zero _)) (by omega)
      obtain ⟨hp', fams, nx⟩ := st
      refine ⟨_, r1, ?_, rfl⟩
      exact Post.change (o := .cells B) (o' := .cells B') hs hb (by simp [AObj.wr, hk]) (by simp [AObj.fam, hk, r6]) rfl rfl rfl rfl
        (.inl ⟨by simp [AObj.fam, hk], rfl⟩) r2
    · rename_i f hk
      simp only [bnd_eq, cond_eq, Bool.and_eq_true, beq_true, Bool.not_eq_true'] at h
      obtain ⟨F, hF, ⟨hlive, hmark⟩, B', hst, hv⟩ := h
      obtain rfl := Option.some.inj hv
      have hko' := hko
      unfold KindOk at hko'
      rw [hk] at hko'
      obtain ⟨hcs, hphys, _⟩ := hko'
      obtain ⟨_, BL, hBL⟩ := hs.fam f F hF
      have hBB : BL = B := by have := hBL.live; rw [hlive, hb] at this; exact (AObj.cells.inj (Option.some.inj this)).symm
      subst hBB
      have hfroz := hBL.froz c BL.e fz (by rw [hlive]; exact hO)
      rw [hlive] at hfroz
      have hm1 : F.mark ≠ 1 := fun e => by rw [e] at hmark; cases hmark
      obtain ⟨r1, r2, r3, r4, r5, r6⟩ := key B' hst (hfroz.2.2 hm1) (by omega)
      obtain ⟨hp', fams, nx⟩ := st
      refine ⟨_, r1, ?_, rfl⟩
      refine Post.change (o := .cells BL) (o' := .cells B') hs hb (by simp [AObj.wr, hk]) (by simp [AObj.fam, hk, r6]) rfl rfl rfl rfl
        (.inr ⟨BL, B', f, F, rfl, rfl, by rw [r6, hk], hk, r5, r4, hF, hlive, rfl, ?_⟩) r2
      intro c' e' fz' he
      obtain ⟨rfl, rfl, rfl⟩ := Obj.cells.inj he
      rw [ovr_size]; exact hfroz
theorem storeVar_ok (hs : Sim B0 φ st w) {t : TypeId} {b off : Nat} {v : AV} {u : Value} {st' : St} (h : storeVar P st t b off v = some st') (hv : Rep st.next φ v u) :
    ∃ w', (Go.storeVar t (caddr φ b off) u).run P w = .ok () w' ∧ Post B0 φ st w φ st' w' ∧ st'.next = st.next := by
  unfold storeVar at h
  simp only [bnd_eq, cnd_eq, beq_true] at h
  obtain ⟨k, hk, hlen, h⟩ := h
  obtain ⟨w', h1, h2⟩ := storeCells_ok (P := P) hs h hv.cells
  refine ⟨w', ?_, h2⟩
  have hul : u.cells.size = k := by have := hv.cells.length; simp at this; omega
  simp only [Go.storeVar, Sem.run_bind, run_size hk, Result.andThen_ok, hul, ne_eq, not_true_eq_false, if_false]
  exact h1
theorem store_ok (hs : Sim B0 φ st w) {t : TypeId} {a v r : AV} {ua u : Value} {st' : St} (h : oStore P t a v st = some (r, st')) (ha : Rep st.next φ a ua) (hv : Rep st.next φ v u) :
    Ok P B0 φ st w (do Instr.storeAt t ua u; pure .skip) r st' := by
  unfold oStore at h
  split at h
  · simp only [bnd_eq] at h
    obtain ⟨st1, h1, h2⟩ := h
    obtain ⟨rfl, rfl⟩ := Prod.mk.inj (Option.some.inj h2)
    obtain ⟨w', r1, r2, _⟩ := storeVar_ok (P := P) hs h1 hv
    refine ⟨φ, w', .skip, Go.undef, ?_, .inr ⟨rfl, rfl⟩, r2, Rep.undef⟩
    rw [ha.ptr_inv]
    simp only [Instr.storeAt, Instr.sureAddr, Sem.run_bind, Sem.run_pure, Result.andThen_ok, r1]
  · cases h
end Go.AE

namespace Go.AE
open Go Go.RowKit

variable {P : Program} {φ : Emb} {w : World} {B0 : Nat} {st : St}

theorem sameNow_eq {t : TypeId} {d : TypeDesc} {k x : AV} {q b : Bool} {n : Nat} {uk ux : Value} (hd : und P t = some d) (h : aeq P 20 t k x = some q) (hk : Rep n φ k uk) (hx : Rep n φ x ux)
    (hs : Instr.sameNow d uk ux = some b) : b = q := by
  have h' : aeqStep P (aeq P 19) t k x = some q := h
  unfold aeqStep at h'
  rw [hd] at h'
  split at h'
  case h_21 => cases h'
  all_goals (rename_i hdd; simp only [Option.some.injEq] at hdd; subst hdd)
  · rw [hk.bool_inv, hx.bool_inv] at hs
    simp only [Instr.sameNow, Option.some.injEq] at hs h'
    rw [← hs, ← h']
  · rw [cnd_eq] at h'
    obtain ⟨hkk, h'⟩ := h'
    rw [kindEq_eq] at hkk; simp only [decide_eq_true_eq] at hkk; subst hkk
    rw [hk.int_inv, hx.int_inv] at hs
    simp only [Instr.sameNow, if_true, Option.some.injEq] at hs h'
    rw [← hs, ← h', ieqb_eq, Bool.eq_iff_iff]; simp
  · rw [hk.str_inv, hx.str_inv] at hs
    simp only [Instr.sameNow, Option.some.injEq] at hs h'
    rw [← hs, ← h', eqL_eq, beq_bytes]
  all_goals first
    | (exfalso; revert hs; rw [← hk.now, ← hx.now]; simp only [Instr.sameNow, reduceCtorEq]; exact id)
    | (exfalso; revert hs; generalize uk = a; generalize ux = c; cases a <;> cases c <;> simp [Instr.sameNow])
/-- What looking for a key comes to. -/
def Found (n : Nat) (φ : Emb) (r : Option AV) (ents : List MapEntry) (i0 : Nat) (ur : Option (Nat × Value)) : Prop :=
  match r with
  | none => ur = none
  | some v => ∃ i u, ur = some (i0 + i, u) ∧ Rep n φ v u ∧ (ents[i]?).map (·.val) = some u
theorem EntsOk.tail {n : Nat} {p : AV × AV} {es : List (AV × AV)} {e : MapEntry} {ents : List MapEntry} (h : EntsOk n φ (p :: es) (e :: ents)) :
    (Rep n φ p.1 e.key ∧ Rep n φ p.2 e.val) ∧ EntsOk n φ es ents :=
  ⟨h.2 0 p e rfl rfl, by simpa using h.1, fun i q f hq hf => h.2 (i + 1) q f (by simpa using hq) (by simpa using hf)⟩
theorem findKey_both {n : Nat} {t : TypeId} {d : TypeDesc} (hd : und P t = some d) {k : AV} {uk : Value} (hk : Rep n φ k uk) : ∀ (es : List (AV × AV)) (ents : List MapEntry) (r : Option AV) (i0 : Nat),
    findKey P t k es = some r → EntsOk n φ es ents →
      ∃ ur, Found n φ r ents i0 ur ∧ (Instr.findAsking t uk ents i0).run P w = .ok ur w ∧ (Instr.findNow d uk ents i0 = some ur ∨ Instr.findNow d uk ents i0 = none)
  | [], ents, r, i0, h, he => by
    simp only [findKey, Option.some.injEq] at h
    subst h
    have : ents = [] := by have := he.1; simpa using this
    subst this
    exact ⟨none, rfl, rfl, .inl rfl⟩
  | p :: es, ents, r, i0, h, he => by
    cases ents with
    | nil => have := he.1; simp at this
    | cons e ents =>
      obtain ⟨⟨hp1, hp2⟩, ht⟩ := he.tail
      simp only [findKey, bnd_eq] at h
      obtain ⟨q, hq, h⟩ := h
      have hrun := aeq20_ok (P := P) hq hk hp1 w
      have hnow : Instr.sameNow d uk e.key = some q ∨ Instr.sameNow d uk e.key = none := by
        cases hs : Instr.sameNow d uk e.key with
        | none => exact .inr rfl
        | some b => exact .inl (by rw [sameNow_eq hd hq hk hp1 hs])
      cases q with
      | true =>
        simp only [cnd_true, Option.some.injEq] at h
        subst h
        refine ⟨some (i0, e.val), ⟨0, e.val, by simp, hp2, rfl⟩, ?_, ?_⟩
        · simp only [Instr.findAsking, Sem.run_bind, hrun, Result.andThen_ok, if_true, Sem.run_pure]
        · rcases hnow with hn | hn
          · exact .inl (by simp only [Instr.findNow, hn])
          · exact .inr (by simp only [Instr.findNow, hn])
      | false =>
        simp only [cnd_false] at h
        obtain ⟨ur, f1, f2, f3⟩ := findKey_both hd hk es ents r (i0 + 1) h ht
        refine ⟨ur, ?_, ?_, ?_⟩
        · unfold Found at f1 ⊢
          cases r with
          | none => exact f1
          | some v =>
            obtain ⟨i, u, g1, g2, g3⟩ := f1
            exact ⟨i + 1, u, by rw [g1]; congr 2; omega, g2, by simpa using g3⟩
        · simp only [Instr.findAsking, Sem.run_bind, hrun, Result.andThen_ok, Bool.false_eq_true, if_false]
          exact f2
        · rcases hnow with hn | hn
          · simp only [Instr.findNow, hn]; exact f3
          · exact .inr (by simp only [Instr.findNow, hn])
theorem findKey_ok {n : Nat} {t : TypeId} {d : TypeDesc} (hd : und P t = some d) {k : AV} {uk : Value} (hk : Rep n φ k uk) {es : List (AV × AV)} {ents : List MapEntry} {r : Option AV}
    (h : findKey P t k es = some r) (he : EntsOk n φ es ents) : ∃ ur, Found n φ r ents 0 ur ∧ (Instr.findKey t uk ents).run P w = .ok ur w := by
  obtain ⟨ur, f1, f2, f3⟩ := findKey_both (P := P) (w := w) hd hk es ents r 0 h he
  refine ⟨ur, f1, ?_⟩
  simp only [Instr.findKey, Sem.run_bind, run_und hd, Result.andThen_ok]
  rcases f3 with f3 | f3
  · rw [f3]; rfl
  · rw [f3]; exact f2
theorem keyOk_und {t : TypeId} (h : keyOk P t = true) : ∃ d, und P t = some d ∧ (d = .bool ∨ (∃ k, d = .int k) ∨ d = .string) := by
  unfold keyOk at h
  split at h
  · rename_i hd; exact ⟨_, hd, .inl rfl⟩
  · rename_i k hd; exact ⟨_, hd, .inr (.inl ⟨k, rfl⟩)⟩
  · rename_i hd; exact ⟨_, hd, .inr (.inr rfl)⟩
  · cases h
theorem checkKey_succ {t : TypeId} (h : keyOk P t = true) (e : Bool) (u : Value) (n : Nat) : (Instr.checkKey e (n + 1) t u).run P w = .ok () w := by
  obtain ⟨d, hd, hk⟩ := keyOk_und h
  simp only [Instr.checkKey, Sem.run_bind, run_und hd, Result.andThen_ok]
  rcases hk with rfl | ⟨k, rfl⟩ | rfl <;> rfl
theorem checkKey_ok {t : TypeId} (h : keyOk P t = true) (e : Bool) (u : Value) : (Instr.checkKey e 10000 t u).run P w = .ok () w := checkKey_succ h e u 9999
theorem run_getObj {r : Nat} {O : Obj} (h : w.heap[r]? = some O) (hc : ∀ c e fz, O ≠ .cells c e fz) : (Go.getObj r).run P w = .ok O w := by
  simp only [Go.getObj, Sem.run, h]
  try (cases O <;> first | rfl | (exact absurd rfl (hc _ _ _)))
theorem run_setObj {r : Nat} {O O' : Obj} (h : w.heap[r]? = some O) (hc : ∀ c e fz, O ≠ .cells c e fz) : (Go.setObj r O').run P w = .ok () (setBlk w r O') := by
  simp only [Go.setObj, Sem.run, h]
  try (cases O <;> first | rfl | (exact absurd rfl (hc _ _ _)))
theorem Sim.map {b : Nat} {es : List (AV × AV)} (hs : Sim B0 φ st w) (h : st.heap.get b = some (.map es)) :
    ∃ ents clk, w.heap[(φ b).blk]? = some (.map ents clk) ∧ EntsOk st.next φ es ents.toList := hs.obj b _ h (fun f hf => by simp [AObj.fam] at hf)
theorem Rep.map_inv {n : Nat} {b : Nat} {u : Value} (h : Rep n φ (.map b) u) : u = .map (some (φ b).blk) := by rw [← h.now, conc]
theorem lookup_ok (hs : Sim B0 φ st w) {t : TypeId} {ok : Bool} {x k v : AV} {ux uk : Value} (h : lookup P st t x k ok = some v) (hx : Rep st.next φ x ux) (hk : Rep st.next φ k uk) :
    Gives P st.next φ w (Instr.lookup t ux uk ok) v := by
  unfold lookup at h
  split at h
  · rename_i kt et hd
    rw [cond_eq] at h
    obtain ⟨hko, h⟩ := h
    simp only [bnd_eq] at h
    obtain ⟨es, hes, r, hr, h⟩ := h
    obtain ⟨d, hdk, _⟩ := keyOk_und hko
    have key : ∀ ents : Array MapEntry, EntsOk st.next φ es ents.toList → ∃ ur u, (Instr.findKey kt uk ents.toList).run P w = .ok ur w ∧ Rep st.next φ v u ∧
        ((match ur with | some (_, v) => pure (v, true) | none => do pure (← zeroValue et, false) : Sem (Value × Bool)).run P w).andThen (fun r w => .ok (if ok then .tuple #[r.1, .bool r.2] else r.1) w) = .ok u w := by
      intro ents hents
      obtain ⟨ur, hf, hrun⟩ := findKey_ok (P := P) (w := w) hdk hk hr hents
      cases r with
      | none =>
        simp only [bnd_eq] at h
        obtain ⟨z, hz, h⟩ := h
        obtain rfl := Option.some.inj h
        obtain ⟨uz, hz1, hz2⟩ := run_zero hz w
        have : ur = none := hf
        subst this
        refine ⟨none, if ok then .tuple #[uz, .bool false] else uz, hrun, ?_, by simp [hz1]⟩
        cases ok with
        | true => exact Rep.tup (RepL.cons (Rep.closed hz2) (RepL.cons Rep.bool RepL.nil))
        | false => exact Rep.closed hz2
      | some v' =>
        obtain rfl := Option.some.inj h
        obtain ⟨i, u, rfl, hu, _⟩ := hf
        refine ⟨_, if ok then .tuple #[u, .bool true] else u, hrun, ?_, by simp⟩
        cases ok with
        | true => exact Rep.tup (RepL.cons hu (RepL.cons Rep.bool RepL.nil))
        | false => exact hu
    split at hes
    · obtain rfl := Option.some.inj hes
      obtain ⟨ur, u, h1, h2, h3⟩ := key #[] (by simp [EntsOk])
      obtain rfl : ux = .map none := by rw [← hx.now, conc]
      refine ⟨u, ?_, h2⟩
      simp only [Instr.lookup, Sem.run_bind, run_und hd, Result.andThen_ok, Sem.run_pure, checkKey_ok hko, h1]
      cases ur with
      | none => simp only [Sem.run_bind] at h3 ⊢; generalize (zeroValue et).run P w = z at h3 ⊢; cases z <;> revert h3 <;> simp [Result.andThen]
      | some p => simpa using h3
    · rename_i b
      split at hes
      · rename_i es' hb
        obtain rfl := Option.some.inj hes
        obtain ⟨ents, clk, g1, g2⟩ := hs.map hb
        obtain ⟨ur, u, h1, h2, h3⟩ := key ents g2
        obtain rfl := hx.map_inv
        refine ⟨u, ?_, h2⟩
        simp only [Instr.lookup, Sem.run_bind, run_und hd, Result.andThen_ok, run_getObj g1 (by simp), Sem.run_pure, checkKey_ok hko, h1]
        cases ur with
        | none => simp only [Sem.run_bind] at h3 ⊢; generalize (zeroValue et).run P w = z at h3 ⊢; cases z <;> revert h3 <;> simp [Result.andThen]
        | some p => simpa using h3
      · cases hes
    · cases hes
  · cases h
end Go.AE
