/- The abstract evaluator: how an abstract state stands to a world; memory laws. -/
import Derived.Test.YtjnahfpnehmehaaGreatDoorAeA
import Derived.Laws.Sem
import Derived.Laws.World
import Derived.Laws.Cells
import Derived.Laws.Rows
import Derived.Below
import Derived.IntWalk
namespace Go.AE
open Go Go.RowKit

@[simp] theorem cnd_true {α : Type} (x y : α) : cnd true x y = x := rfl
@[simp] theorem cnd_false {α : Type} (x y : α) : cnd false x y = y := rfl
@[simp] theorem bnd_some {α β : Type} (a : α) (f : α → Option β) : (some a).bnd f = f a := rfl
@[simp] theorem bnd_none {α β : Type} (f : α → Option β) : (none : Option α).bnd f = none := rfl
theorem bnd_eq {α β : Type} {o : Option α} {f : α → Option β} {b : β} : o.bnd f = some b ↔ ∃ a, o = some a ∧ f a = some b := by
  cases o <;> simp
theorem cnd_eq {α : Type} {c : Bool} {x : Option α} {b : α} : cnd c x none = some b ↔ c = true ∧ x = some b := by
  cases c <;> simp
theorem cond_eq {α : Type} {c : Bool} {x : Option α} {b : α} : (bif c then x else none) = some b ↔ c = true ∧ x = some b := by
  cases c <;> simp
theorem cnd_none_eq {α : Type} {c : Bool} {x : Option α} {b : α} : cnd c none x = some b ↔ c = false ∧ x = some b := by
  cases c <;> simp
theorem beq_true {a b : Nat} : Nat.beq a b = true ↔ a = b := ⟨Nat.eq_of_beq_eq_true, fun h => by subst h; exact Nat.beq_refl a⟩
theorem ble_true {a b : Nat} : Nat.ble a b = true ↔ a ≤ b := ⟨Nat.le_of_ble_eq_true, Nat.ble_eq_true_of_le⟩
theorem blt_true {a b : Nat} : Nat.blt a b = true ↔ a < b := by unfold Nat.blt; rw [ble_true]; exact Iff.rfl

namespace T
variable {α : Type}
theorem get_nil (n : Nat) : (nil : T α).get n = none := rfl
theorem get_node (l : T α) (v : Option α) (r : T α) (n : Nat) :
    (node l v r).get n = match n with | 0 => v | m + 1 => if m % 2 = 0 then l.get (m / 2) else r.get (m / 2) := by
  cases n with
  | zero => rfl
  | succ m =>
    show (Bool.rec (motive := fun _ => Option α) (r.get (m / 2)) (l.get (m / 2)) (Nat.beq (m % 2) 0) : Option α) = _
    by_cases h : m % 2 = 0
    · simp only [if_pos h, beq_true.2 h]
    · have : Nat.beq (m % 2) 0 = false := by
        cases hb : Nat.beq (m % 2) 0
        · rfl
        · exact absurd (beq_true.1 hb) h
      simp only [this, if_neg h]
theorem setF_nil (f n : Nat) (x : α) : setF (f + 1) nil n x = match n with
    | 0 => node nil (some x) nil
    | m + 1 => if m % 2 = 0 then node (setF f nil (m / 2) x) none nil else node nil none (setF f nil (m / 2) x) := by
  cases n with
  | zero => rfl
  | succ m =>
    show (Bool.rec (motive := fun _ => T α) (node nil none (setF f nil (m / 2) x)) (node (setF f nil (m / 2) x) none nil) (Nat.beq (m % 2) 0) : T α) = _
    by_cases h : m % 2 = 0
    · simp only [if_pos h, beq_true.2 h]
    · have : Nat.beq (m % 2) 0 = false := by
        cases hb : Nat.beq (m % 2) 0
        · rfl
        · exact absurd (beq_true.1 hb) h
      simp only [this, if_neg h]
theorem setF_node (f : Nat) (l : T α) (v : Option α) (r : T α) (n : Nat) (x : α) : setF (f + 1) (node l v r) n x = match n with
    | 0 => node l (some x) r
    | m + 1 => if m % 2 = 0 then node (setF f l (m / 2) x) v r else node l v (setF f r (m / 2) x) := by
  cases n with
  | zero => rfl
  | succ m =>
    show (Bool.rec (motive := fun _ => T α) (node l v (setF f r (m / 2) x)) (node (setF f l (m / 2) x) v r) (Nat.beq (m % 2) 0) : T α) = _
    by_cases h : m % 2 = 0
    · simp only [if_pos h, beq_true.2 h]
    · have : Nat.beq (m % 2) 0 = false := by
        cases hb : Nat.beq (m % 2) 0
        · rfl
        · exact absurd (beq_true.1 hb) h
      simp only [this, if_neg h]

theorem get_setF : ∀ (f : Nat) (t : T α) (n : Nat) (x : α) (m : Nat), n < f → (setF f t n x).get m = if m = n then some x else t.get m := by
  intro f
  induction f with
  | zero => intro t n x m h; omega
  | succ f ih =>
    intro t n x m h
    cases t with
    | nil =>
      rw [setF_nil]
      cases n with
      | zero => cases m <;> simp [get_node, get_nil]
      | succ k =>
        simp only
        have hk : k / 2 < f := by omega
        by_cases hp : k % 2 = 0
        · rw [if_pos hp]
          cases m with
          | zero => simp [get_node, get_nil]
          | succ j =>
            simp only [get_node, get_nil]
            by_cases hq : j % 2 = 0
            · rw [if_pos hq, ih _ _ _ _ hk, get_nil]
              by_cases e : j = k
              · subst e; simp
              · rw [if_neg (by omega), if_neg (by omega)]
            · rw [if_neg hq, if_neg (by omega)]
        · rw [if_neg hp]
          cases m with
          | zero => simp [get_node, get_nil]
          | succ j =>
            simp only [get_node, get_nil]
            by_cases hq : j % 2 = 0
            · rw [if_pos hq, if_neg (by omega)]
            · rw [if_neg hq, ih _ _ _ _ hk, get_nil]
              by_cases e : j = k
              · subst e; simp
              · rw [if_neg (by omega), if_neg (by omega)]
    | node l v r =>
      rw [setF_node]
      cases n with
      | zero => cases m <;> simp [get_node]
      | succ k =>
        simp only
        have hk : k / 2 < f := by omega
        by_cases hp : k % 2 = 0
        · rw [if_pos hp]
          cases m with
          | zero => simp [get_node]
          | succ j =>
            simp only [get_node]
            by_cases hq : j % 2 = 0
            · rw [if_pos hq, if_pos hq, ih _ _ _ _ hk]
              by_cases e : j = k
              · subst e; simp
              · rw [if_neg (by omega), if_neg (by omega)]
            · rw [if_neg hq, if_neg hq, if_neg (by omega)]
        · rw [if_neg hp]
          cases m with
          | zero => simp [get_node]
          | succ j =>
            simp only [get_node]
            by_cases hq : j % 2 = 0
            · rw [if_pos hq, if_pos hq, if_neg (by omega)]
            · rw [if_neg hq, if_neg hq, ih _ _ _ _ hk]
              by_cases e : j = k
              · subst e; simp
              · rw [if_neg (by omega), if_neg (by omega)]
theorem get_set (t : T α) (n : Nat) (x : α) (m : Nat) : (t.set n x).get m = if m = n then some x else t.get m :=
  get_setF _ _ _ _ _ (Nat.lt_succ_self n)
theorem get_set_same (t : T α) (n : Nat) (x : α) : (t.set n x).get n = some x := by rw [get_set, if_pos rfl]
theorem get_set_ne (t : T α) {n m : Nat} (x : α) (h : m ≠ n) : (t.set n x).get m = t.get m := by rw [get_set, if_neg h]
end T

/-! Lists -/
theorem nth_eq {α : Type} : ∀ (l : List α) (n : Nat), nth l n = l[n]?
  | [], _ => by simp [nth]
  | _ :: _, 0 => by simp [nth]
  | _ :: xs, n + 1 => by simp [nth, nth_eq xs n]
theorem takeN_eq {α : Type} : ∀ (n : Nat) (l r : List α), takeN n l = some r ↔ n ≤ l.length ∧ r = l.take n
  | 0, l, r => by simp [takeN]
  | n + 1, [], r => by simp [takeN]
  | n + 1, x :: xs, r => by
    simp only [takeN, bnd_eq, takeN_eq n xs, Option.some.injEq, List.length_cons, List.take_succ_cons]
    constructor
    · rintro ⟨a, ⟨h, rfl⟩, rfl⟩; exact ⟨by omega, rfl⟩
    · rintro ⟨h, rfl⟩; exact ⟨_, ⟨by omega, rfl⟩, rfl⟩
theorem over_eq {α : Type} : ∀ (c vs r : List α), over c vs = some r ↔ vs.length ≤ c.length ∧ r = vs ++ c.drop vs.length
  | c, [], r => by cases c <;> simp [over] <;> exact eq_comm
  | [], _ :: _, r => by simp [over]
  | x :: c, v :: vs, r => by
    simp only [over, bnd_eq, over_eq c vs, Option.some.injEq, List.length_cons, List.drop_succ_cons, List.cons_append]
    constructor
    · rintro ⟨a, ⟨h, rfl⟩, rfl⟩; exact ⟨by omega, rfl⟩
    · rintro ⟨h, rfl⟩; exact ⟨_, ⟨by omega, rfl⟩, rfl⟩
theorem overAt_eq {α : Type} : ∀ (c : List α) (n : Nat) (vs r : List α), overAt c n vs = some r → 
    r.length = c.length ∧ (vs ≠ [] → n + vs.length ≤ c.length) ∧ ∀ i, r[i]? = if n ≤ i ∧ i < n + vs.length then vs[i - n]? else c[i]?
  | c, 0, vs, r => by
    intro h
    have h' : over c vs = some r := by cases c <;> exact h
    rw [over_eq] at h'
    obtain ⟨hl, rfl⟩ := h'
    refine ⟨by simp; omega, fun _ => by omega, fun i => ?_⟩
    by_cases hi : i < vs.length
    · rw [if_pos ⟨by omega, by omega⟩, List.getElem?_append_left hi]; simp
    · rw [if_neg (by omega), List.getElem?_append_right (by omega), List.getElem?_drop]; congr 1; omega
  | [], n + 1, vs, r => by
    intro h
    cases vs with
    | nil => simp [overAt] at h; subst h; simp
    | cons v vs => simp [overAt] at h
  | x :: c, n + 1, vs, r => by
    intro h
    simp only [overAt, bnd_eq, Option.some.injEq] at h
    obtain ⟨a, ha, rfl⟩ := h
    obtain ⟨h1, h2, h3⟩ := overAt_eq c n vs a ha
    refine ⟨by simp [h1], fun hv => by have := h2 hv; simp; omega, fun i => ?_⟩
    cases i with
    | zero => rw [if_neg (by omega)]; simp
    | succ i =>
      simp only [List.getElem?_cons_succ, h3 i]
      by_cases hi : n ≤ i ∧ i < n + vs.length
      · rw [if_pos hi, if_pos (by omega)]; congr 1; omega
      · rw [if_neg hi, if_neg (by omega)]
theorem overAt_pos {α : Type} : ∀ (c : List α) (n : Nat) (vs : List α), n + vs.length ≤ c.length → ∃ r, overAt c n vs = some r
  | c, 0, vs, h => by
    have : overAt c 0 vs = over c vs := by cases c <;> rfl
    rw [this]; exact ⟨_, (over_eq c vs _).2 ⟨by omega, rfl⟩⟩
  | [], n + 1, vs, h => by simp at h
  | x :: c, n + 1, vs, h => by
    obtain ⟨r, hr⟩ := overAt_pos c n vs (by simp at h; omega)
    exact ⟨x :: r, by simp [overAt, hr]⟩

theorem eqL_eq : ∀ (a b : List UInt8), eqL a b = decide (a = b)
  | [], [] => by simp [eqL]
  | [], _ :: _ => by simp [eqL]
  | _ :: _, [] => by simp [eqL]
  | a :: x, b :: y => by
    rw [eqL, eqL_eq x y]
    by_cases h : a = b
    · subst h; rw [Nat.beq_refl]; by_cases h2 : x = y <;> simp [h2]
    · have : Nat.beq a.toNat b.toNat = false := by
        cases hb : Nat.beq a.toNat b.toNat
        · rfl
        · exact absurd (UInt8.toNat_inj.1 (beq_true.1 hb)) h
      rw [this]; simp [h]
theorem ltL_eq : ∀ (a b : List UInt8), ltL a b = Op.bytesLess a b
  | [], [] => by simp [ltL, Op.bytesLess]
  | [], _ :: _ => by simp [ltL, Op.bytesLess]
  | _ :: _, [] => by simp [ltL, Op.bytesLess]
  | a :: x, b :: y => by
    rw [ltL, Op.bytesLess, ltL_eq x y]
    congr 1
    · rw [Bool.eq_iff_iff, blt_true]; simp [UInt8.lt_iff_toNat_lt]
    · congr 1; rw [Bool.eq_iff_iff, beq_true]; simp [UInt8.toNat_inj]

/-! Whole numbers -/
theorem iltb_eq (a b : Int) : iltb a b = decide (a < b) := by
  rw [Bool.eq_iff_iff, decide_eq_true_eq]
  cases a with
  | ofNat a => cases b with
    | ofNat b => rw [iltb, blt_true]; simp
    | negSucc b => simp only [iltb, Bool.false_eq_true, false_iff, Int.ofNat_eq_natCast]; omega
  | negSucc a => cases b with
    | ofNat b => simp only [iltb, true_iff, Int.ofNat_eq_natCast]; omega
    | negSucc b => rw [iltb, blt_true]; omega
theorem ieqb_eq (a b : Int) : ieqb a b = decide (a = b) := by
  rw [Bool.eq_iff_iff, decide_eq_true_eq]
  cases a with
  | ofNat a => cases b with
    | ofNat b => rw [ieqb, beq_true]; simp only [Int.ofNat_eq_natCast]; omega
    | negSucc b => simp only [ieqb, Bool.false_eq_true, false_iff, Int.ofNat_eq_natCast]; omega
  | negSucc a => cases b with
    | ofNat b => simp only [ieqb, Bool.false_eq_true, false_iff, Int.ofNat_eq_natCast]; omega
    | negSucc b => rw [ieqb, beq_true]; omega
theorem kindEq_eq (a b : IntKind) : kindEq a b = decide (a = b) := by cases a <;> cases b <;> rfl
theorem small_spec {k : IntKind} {n : Int} (h : small k n = true) : k.wrap n = n := by
  cases n with
  | ofNat a =>
    cases k <;> simp only [small, Bool.false_eq_true, blt_true] at h
    · exact IntWalk.i32_in _ (by simp only [Int.ofNat_eq_natCast]; omega)
    · exact IntWalk.i64_in _ (by simp only [Int.ofNat_eq_natCast]; omega)
    · exact IntWalk.u8_in _ (by simp only [Int.ofNat_eq_natCast]; omega)
    · exact IntWalk.u32_in _ (by simp only [Int.ofNat_eq_natCast]; omega)
    · exact IntWalk.u64_in _ (by simp only [Int.ofNat_eq_natCast]; omega)
  | negSucc a =>
    cases k <;> simp only [small, Bool.false_eq_true, blt_true] at h
    · exact IntWalk.i32_in _ (by omega)
    · exact IntWalk.i64_in _ (by omega)
theorem wrapF_eq (k : IntKind) (n : Int) : wrapF k n = k.wrap n := by
  unfold wrapF
  cases h : small k n with
  | false => rfl
  | true => exact (small_spec h).symm
theorem idxb_eq {i : Int} {n k : Nat} : idxb i n = some k ↔ (0 ≤ i ∧ i < n) ∧ k = i.toNat := by
  cases i with
  | ofNat a =>
    simp only [idxb, cnd_eq, blt_true, Option.some.injEq]
    constructor
    · rintro ⟨h, rfl⟩; exact ⟨⟨by simp, by simpa using h⟩, by simp⟩
    · rintro ⟨⟨_, h⟩, rfl⟩; exact ⟨by simpa using h, by simp⟩
  | negSucc a =>
    simp only [idxb, reduceCtorEq, false_iff]
    rintro ⟨⟨h, _⟩, _⟩; omega
end Go.AE

namespace Go.AE
open Go Go.RowKit

/-- Where an abstract block lies: the block, where in it, how many cells there are from there on, an element's size. -/
structure Img where
  blk : Nat
  add : Nat
  phys : Nat
  z : Nat
abbrev Emb := Nat → Img
def caddr (φ : Emb) (b off : Nat) : Addr := ⟨(φ b).blk, (φ b).add + off, none⟩
def concFn (φ : Emb) : Fn → Fn
  | .yield l => .yield (φ l).blk
  | f => f
def capOf (φ : Emb) (b off : Nat) : Option Nat → Nat
  | some c => c
  | none => ((φ b).phys - off) / (φ b).z
mutual
def conc (φ : Emb) : AV → Value
  | .bool b => .bool b
  | .int k n => .int k n
  | .str s => .string ⟨s.toArray⟩
  | .nilp => .pointer none
  | .ptr b off => .pointer (some (caddr φ b off))
  | .nils => .slice none 0 0
  | .slc b off len cap => .slice (some (caddr φ b off)) len (capOf φ b off cap)
  | .nilm => .map none
  | .map b => .map (some (φ b).blk)
  | .nilf => .nilFunc
  | .func fn x y => .func (concFn φ fn) (concL φ x).toArray (concL φ y).toArray
  | .nili => .nilIface
  | .iface t v => .iface t (conc φ v)
  | .agg c => .agg (concL φ c).toArray
  | .tup c => .tuple (concL φ c).toArray
def concL (φ : Emb) : List AV → List Value
  | [] => []
  | v :: vs => conc φ v :: concL φ vs
end
theorem concL_eq (φ : Emb) : ∀ l, concL φ l = l.map (conc φ)
  | [] => rfl
  | v :: vs => by simp [concL, concL_eq φ vs]

/-- Embeddings alike below n, where the first says something (a size that is none: no block yet). -/
def Agr (n : Nat) (φ φ' : Emb) : Prop := ∀ b, b < n → (φ b).z ≠ 0 → φ' b = φ b
theorem Agr.refl (n : Nat) (φ : Emb) : Agr n φ φ := fun _ _ _ => rfl
theorem Agr.trans {n m : Nat} {φ φ' φ'' : Emb} (h : Agr n φ φ') (k : Agr m φ' φ'') (hm : n ≤ m) : Agr n φ φ'' :=
  fun b hb ho => (k b (Nat.lt_of_lt_of_le hb hm) (by rw [h b hb ho]; exact ho)).trans (h b hb ho)
theorem Agr.mono {n m : Nat} {φ φ' : Emb} (h : Agr n φ φ') (hm : m ≤ n) : Agr m φ φ' := fun b hb ho => h b (Nat.lt_of_lt_of_le hb hm) ho

/-- The abstract value reads as this value, however the embedding goes on from n. -/
def Rep (n : Nat) (φ : Emb) (v : AV) (u : Value) : Prop := ∀ φ', Agr n φ φ' → conc φ' v = u
def RepL (n : Nat) (φ : Emb) (v : List AV) (u : List Value) : Prop := ∀ φ', Agr n φ φ' → concL φ' v = u
theorem Rep.now {n : Nat} {φ : Emb} {v : AV} {u : Value} (h : Rep n φ v u) : conc φ v = u := h φ (Agr.refl _ _)
theorem RepL.now {n : Nat} {φ : Emb} {v : List AV} {u : List Value} (h : RepL n φ v u) : concL φ v = u := h φ (Agr.refl _ _)
theorem Rep.mono {n m : Nat} {φ φ' : Emb} {v : AV} {u : Value} (h : Rep n φ v u) (hm : n ≤ m) (ha : Agr n φ φ') : Rep m φ' v u :=
  fun φ'' h'' => h φ'' (ha.trans h'' hm)
theorem RepL.mono {n m : Nat} {φ φ' : Emb} {v : List AV} {u : List Value} (h : RepL n φ v u) (hm : n ≤ m) (ha : Agr n φ φ') : RepL m φ' v u :=
  fun φ'' h'' => h φ'' (ha.trans h'' hm)
theorem RepL.nil {n : Nat} {φ : Emb} : RepL n φ [] [] := fun _ _ => rfl
theorem RepL.cons {n : Nat} {φ : Emb} {v : AV} {vs : List AV} {u : Value} {us : List Value} (h : Rep n φ v u) (k : RepL n φ vs us) : RepL n φ (v :: vs) (u :: us) :=
  fun φ' h' => by rw [concL, h φ' h', k φ' h']
theorem RepL.length {n : Nat} {φ : Emb} {v : List AV} {u : List Value} (h : RepL n φ v u) : u.length = v.length := by
  rw [← h.now, concL_eq]; simp
theorem RepL.get {n : Nat} {φ : Emb} {v : List AV} {u : List Value} (h : RepL n φ v u) {i : Nat} {a : AV} (ha : v[i]? = some a) : ∃ x, u[i]? = some x ∧ Rep n φ a x := by
  refine ⟨conc φ a, ?_, fun φ' h' => ?_⟩
  · rw [← h.now, concL_eq]; simp [ha]
  · have h1 := h φ' h'
    rw [← h.now, concL_eq, concL_eq] at h1
    have h2 := congrArg (fun l => l[i]?) h1
    simpa [ha] using h2
theorem RepL.of_get {n : Nat} {φ : Emb} {v : List AV} {u : List Value} (hl : u.length = v.length) (h : ∀ (i : Nat) (a : AV) (x : Value), v[i]? = some a → u[i]? = some x → Rep n φ a x) : RepL n φ v u := by
  intro φ' h'
  rw [concL_eq]
  apply List.ext_getElem?
  intro i
  rw [List.getElem?_map]
  cases ha : v[i]? with
  | none =>
    have := List.getElem?_eq_none_iff.1 ha
    rw [List.getElem?_eq_none (by omega)]; rfl
  | some a =>
    have hi : i < v.length := (List.getElem?_eq_some_iff.1 ha).1
    obtain ⟨x, hx⟩ : ∃ x, u[i]? = some x := ⟨u[i], by simp⟩
    rw [hx, Option.map_some, h i a x ha hx φ' h']
theorem RepL.append {n : Nat} {φ : Emb} {v v' : List AV} {u u' : List Value} (h : RepL n φ v u) (k : RepL n φ v' u') : RepL n φ (v ++ v') (u ++ u') :=
  fun φ' h' => by rw [concL_eq, List.map_append, ← concL_eq, ← concL_eq, h φ' h', k φ' h']
theorem RepL.drop {n : Nat} {φ : Emb} {v : List AV} {u : List Value} (h : RepL n φ v u) (k : Nat) : RepL n φ (v.drop k) (u.drop k) :=
  fun φ' h' => by rw [concL_eq, List.map_drop, ← concL_eq, h φ' h']
theorem RepL.take {n : Nat} {φ : Emb} {v : List AV} {u : List Value} (h : RepL n φ v u) (k : Nat) : RepL n φ (v.take k) (u.take k) :=
  fun φ' h' => by rw [concL_eq, List.map_take, ← concL_eq, h φ' h']
/-- A value that holds no address. -/
theorem Rep.closed {n : Nat} {φ : Emb} {v : AV} {u : Value} (h : ∀ φ', conc φ' v = u) : Rep n φ v u := fun φ' _ => h φ'
theorem Rep.agg {n : Nat} {φ : Emb} {v : List AV} {u : List Value} (h : RepL n φ v u) : Rep n φ (.agg v) (.agg u.toArray) := fun φ' h' => by rw [conc, h φ' h']
theorem Rep.tup {n : Nat} {φ : Emb} {v : List AV} {u : List Value} (h : RepL n φ v u) : Rep n φ (.tup v) (.tuple u.toArray) := fun φ' h' => by rw [conc, h φ' h']
theorem Rep.agg_inv {n : Nat} {φ : Emb} {v : List AV} {u : Value} (h : Rep n φ (.agg v) u) : ∃ us : List Value, u = .agg us.toArray ∧ RepL n φ v us := by
  refine ⟨concL φ v, by rw [← h.now, conc], fun φ' h' => ?_⟩
  have h1 := h φ' h'
  rw [← h.now, conc, conc] at h1
  exact List.toArray_inj (Value.agg.inj h1)
theorem Rep.tup_inv {n : Nat} {φ : Emb} {v : List AV} {u : Value} (h : Rep n φ (.tup v) u) : ∃ us : List Value, u = .tuple us.toArray ∧ RepL n φ v us := by
  refine ⟨concL φ v, by rw [← h.now, conc], fun φ' h' => ?_⟩
  have h1 := h φ' h'
  rw [← h.now, conc, conc] at h1
  exact List.toArray_inj (Value.tuple.inj h1)
theorem Rep.cells {n : Nat} {φ : Emb} {v : AV} {u : Value} (h : Rep n φ v u) : RepL n φ v.cells u.cells.toList := by
  cases v with
  | agg c => obtain ⟨us, rfl, hr⟩ := h.agg_inv; simpa [AV.cells, Value.cells] using hr
  | _ =>
    have h1 := h.now
    simp only [conc] at h1
    subst h1
    exact RepL.cons h RepL.nil
theorem Rep.plain {n : Nat} {φ : Emb} {v : AV} {u : Value} (h : Rep n φ v u) (hp : v.plain = true) : (∀ c, u ≠ .agg c) ∧ (∀ c, u ≠ .tuple c) := by
  have h1 := h.now
  cases v <;> simp only [conc] at h1 <;> subst h1 <;> simp_all [AV.plain]

/-! Constants -/
theorem abs1_ok {v : Value} {a : AV} (h : abs1 v = some a) (φ : Emb) : conc φ a = v := by
  unfold abs1 at h
  split at h <;> simp only [Option.some.injEq, reduceCtorEq] at h <;> subst h <;> simp [conc]
theorem absL_ok : ∀ {l : List Value} {a : List AV}, absL l = some a → ∀ φ, concL φ a = l
  | [], a, h, φ => by simp [absL] at h; subst h; rfl
  | v :: vs, a, h, φ => by
    simp only [absL, bnd_eq, Option.some.injEq] at h
    obtain ⟨x, hx, y, hy, rfl⟩ := h
    rw [concL, abs1_ok hx, absL_ok hy]
theorem absL2_ok : ∀ {l : List Value} {a : List AV}, absL2 l = some a → ∀ φ, concL φ a = l
  | [], a, h, φ => by simp [absL2] at h; subst h; rfl
  | v :: vs, a, h, φ => by
    simp only [absL2, bnd_eq, Option.some.injEq] at h
    obtain ⟨x, hx, y, hy, rfl⟩ := h
    rw [concL, absL2_ok hy]
    congr 1
    split at hx
    · simp only [bnd_eq, Option.some.injEq] at hx
      obtain ⟨l, hl, rfl⟩ := hx
      simp [conc, absL_ok hl]
    · exact abs1_ok hx φ
theorem absC_ok {v : Value} {a : AV} (h : absC v = some a) (φ : Emb) : conc φ a = v := by
  unfold absC at h
  split at h
  · simp only [bnd_eq, Option.some.injEq] at h
    obtain ⟨l, hl, rfl⟩ := h
    simp [conc, absL_ok hl]
  · simp only [bnd_eq, Option.some.injEq] at h
    obtain ⟨l, hl, rfl⟩ := h
    simp [conc, absL2_ok hl]
  · exact abs1_ok h φ

/-! Frames -/
structure FrR (n : Nat) (φ : Emb) (fr : Fr) (a : Act) : Prop where
  size : a.tmps.size = fr.nt
  val : ∀ t, Rep n φ (fr.get t) (a.tmps.getD t undef)
theorem FrR.mono {n m : Nat} {φ φ' : Emb} {fr : Fr} {a : Act} (h : FrR n φ fr a) (hm : n ≤ m) (ha : Agr n φ φ') : FrR m φ' fr a :=
  ⟨h.size, fun t => (h.val t).mono hm ha⟩
theorem Rep.undef {n : Nat} {φ : Emb} : Rep n φ (.tup []) Go.undef := Rep.closed fun _ => by simp [conc, concL, Go.undef]
theorem FrR.put {n : Nat} {φ : Emb} {fr fr' : Fr} {a : Act} {d : Option Tmp} {v : AV} {u : Value} (h : FrR n φ fr a) (hp : fr.put d v = some fr') (hr : Rep n φ v u) :
    FrR n φ fr' (a.put d u) ∧ fr'.rd = fr.rd ∧ fr'.nt = fr.nt := by
  cases d with
  | none => simp only [Fr.put, Option.some.injEq] at hp; subst hp; exact ⟨h, rfl, rfl⟩
  | some d =>
    obtain ⟨nt, t, rd⟩ := fr
    simp only [Fr.put, cnd_eq, blt_true, Option.some.injEq] at hp
    obtain ⟨hd, rfl⟩ := hp
    refine ⟨⟨by simpa [Act.put] using h.size, fun k => ?_⟩, rfl, rfl⟩
    have hs : a.tmps.size = nt := h.size
    have hv := h.val k
    simp only [Fr.get] at hv ⊢
    rw [T.get_set]
    by_cases hk : k = d
    · subst hk
      have : (a.put (some k) u).tmps.getD k Go.undef = u := by simp [Act.put, hs, hd]
      rw [if_pos rfl, this]; exact hr
    · have : (a.put (some d) u).tmps.getD k Go.undef = a.tmps.getD k Go.undef := by
        simp [Act.put, Array.getElem?_setIfInBounds_ne (Ne.symm hk)]
      rw [if_neg hk, this]; exact hv
/-- The numbers below 64 stand for the program's variables. -/
structure Base (n : Nat) (φ : Emb) : Prop where
  le : 64 ≤ n
  id : ∀ g, g < 64 → (φ g).blk = g ∧ (φ g).add = 0
  on : ∀ g, g < 64 → (φ g).z ≠ 0
theorem ev_ok {n : Nat} {φ : Emb} {fr : Fr} {a : Act} (hb : Base n φ) (h : FrR n φ fr a) {x : Operand} {v : AV} (he : ev fr x = some v) : Rep n φ v (a.eval x) := by
  cases x with
  | tmp t => simp only [ev, Option.some.injEq] at he; subst he; exact h.val t
  | const c => exact Rep.closed fun φ' => absC_ok he φ'
  | global g =>
    simp only [ev, cnd_eq, blt_true, Option.some.injEq] at he
    obtain ⟨hg, rfl⟩ := he
    intro φ' h'
    have h1 := h' g (Nat.lt_of_lt_of_le hg hb.le) (hb.on g hg)
    obtain ⟨h2, h3⟩ := hb.id g hg
    simp [conc, caddr, h1, h2, h3, Act.eval]
  | func f => simp only [ev, Option.some.injEq] at he; subst he; exact Rep.closed fun _ => by simp [conc, concL, concFn, Act.eval]
theorem evs_ok {n : Nat} {φ : Emb} {fr : Fr} {a : Act} (hb : Base n φ) (h : FrR n φ fr a) : ∀ {xs : List Operand} {vs : List AV}, evs fr xs = some vs → RepL n φ vs (xs.map a.eval)
  | [], vs, he => by simp only [evs, Option.some.injEq] at he; subst he; exact RepL.nil
  | x :: xs, vs, he => by
    simp only [evs, bnd_eq, Option.some.injEq] at he
    obtain ⟨v, hv, vs', hvs, rfl⟩ := he
    exact RepL.cons (ev_ok hb h hv) (evs_ok hb h hvs)
end Go.AE

namespace Go.AE
open Go Go.RowKit

/-! Worlds -/
def setBlk (w : World) (g : Nat) (O : Obj) : World := { w with heap := w.heap.setIfInBounds g O }
theorem setBlk_get (w : World) (g r : Nat) (O : Obj) : (setBlk w g O).heap[r]? = if r = g ∧ g < w.heap.size then some O else w.heap[r]? := by
  simp only [setBlk]
  rw [Array.getElem?_setIfInBounds]
  by_cases h : g = r
  · subst h
    by_cases h2 : g < w.heap.size
    · simp [h2]
    · simp [h2]
  · rw [if_neg h, if_neg (by rintro ⟨h1, _⟩; exact h h1.symm)]
theorem setBlk_size (w : World) (g : Nat) (O : Obj) : (setBlk w g O).heap.size = w.heap.size := by simp [setBlk]
theorem setBlk_same {w : World} {g : Nat} {O : Obj} (h : w.heap[g]? = some O) : setBlk w g O = w := by
  obtain ⟨hl, he⟩ := Array.getElem?_eq_some_iff.1 h
  have : w.heap.setIfInBounds g O = w.heap := by
    apply Array.ext_getElem?
    intro i
    rw [Array.getElem?_setIfInBounds]
    by_cases e : g = i
    · subst e; simp [hl, he]
    · rw [if_neg e]
  cases w; simp only [setBlk] at *; rw [this]
theorem setBlk_twice (w : World) (g : Nat) (O O' : Obj) : setBlk (setBlk w g O) g O' = setBlk w g O' := by
  have : (w.heap.setIfInBounds g O).setIfInBounds g O' = w.heap.setIfInBounds g O' := by
    apply Array.ext_getElem?
    intro i
    simp only [Array.getElem?_setIfInBounds]
    by_cases e : g = i
    · subst e; simp
    · simp [e]
  simp only [setBlk, this]
theorem setCell_eq {w : World} {g o : Nat} {c : Array Value} {e : TypeId} {fz : Nat × Nat} (h : w.heap[g]? = some (.cells c e fz)) (v : Value) :
    w.setCell ⟨g, o, none⟩ v = setBlk w g (.cells (c.setIfInBounds o v) e fz) := by
  obtain ⟨hl, he⟩ := Array.getElem?_eq_some_iff.1 h
  have : (w.setCell ⟨g, o, none⟩ v).heap = w.heap.setIfInBounds g (.cells (c.setIfInBounds o v) e fz) := by
    apply Array.ext_getElem?
    intro i
    simp only [World.setCell, Array.getElem?_modify, Array.getElem?_setIfInBounds]
    by_cases e : g = i
    · subst e; rw [if_pos rfl, if_pos rfl, h]; simp [hl]
    · rw [if_neg e, if_neg e]
  cases w
  simp only [World.setCell, setBlk] at *
  rw [this]
theorem cell_of {w : World} {g o : Nat} {c : Array Value} {e : TypeId} {fz : Nat × Nat} (h : w.heap[g]? = some (.cells c e fz)) : w.cell? ⟨g, o, none⟩ = c[o]? := by
  simp [World.cell?, h]
theorem frozen_of {w : World} {g o : Nat} {c : Array Value} {e : TypeId} {fz : Nat × Nat} (h : w.heap[g]? = some (.cells c e fz)) : w.frozen? ⟨g, o, none⟩ = (decide (fz.1 ≤ o) && decide (o < fz.2)) := by
  obtain ⟨lo, hi⟩ := fz
  simp [World.frozen?, h]

def ovr : Array Value → Nat → List Value → Array Value
  | c, _, [] => c
  | c, o, u :: us => ovr (c.setIfInBounds o u) (o + 1) us
theorem ovr_size : ∀ (us : List Value) (c : Array Value) (o : Nat), (ovr c o us).size = c.size
  | [], _, _ => rfl
  | u :: us, c, o => by rw [ovr, ovr_size us]; simp
theorem ovr_get : ∀ (us : List Value) (c : Array Value) (o i : Nat), o + us.length ≤ c.size → (ovr c o us)[i]? = if o ≤ i ∧ i < o + us.length then us[i - o]? else c[i]?
  | [], c, o, i, _ => by rw [ovr, if_neg (by simp)]
  | u :: us, c, o, i, h => by
    simp only [List.length_cons] at h
    rw [ovr, ovr_get us _ _ _ (by simp; omega), Array.getElem?_setIfInBounds]
    simp only [List.length_cons]
    by_cases h1 : o + 1 ≤ i ∧ i < o + 1 + us.length
    · rw [if_pos h1, if_pos (by omega)]
      obtain ⟨k, rfl⟩ : ∃ k, i = o + 1 + k := ⟨i - (o + 1), by omega⟩
      rw [show o + 1 + k - (o + 1) = k from by omega, show o + 1 + k - o = k + 1 from by omega]; simp
    · rw [if_neg h1]
      by_cases h2 : o = i
      · subst h2; rw [if_pos rfl, if_pos (by omega), if_pos (by omega)]; simp
      · rw [if_neg h2, if_neg (by omega)]
theorem addr_add (g o i : Nat) : (⟨g, o, none⟩ : Addr).add i = ⟨g, o + i, none⟩ := by
  unfold Addr.add; by_cases h : i = 0
  · subst h; simp
  · rw [if_neg h]
theorem run_storeCells {P : Program} {g o : Nat} {e : TypeId} {fz : Nat × Nat} : ∀ (us : List Value) (i : Nat) (c : Array Value) (w : World), w.heap[g]? = some (.cells c e fz) →
    (o + i) + us.length ≤ c.size → (∀ j, j < us.length → ¬ (fz.1 ≤ o + i + j ∧ o + i + j < fz.2)) → (∀ u ∈ us, u.oneCell' = true) →
    (Go.storeCells ⟨g, o, none⟩ us i).run P w = .ok () (setBlk w g (.cells (ovr c (o + i) us) e fz))
  | [], i, c, w, h, _, _, _ => by simp only [Go.storeCells, ovr, Sem.run_pure]; rw [setBlk_same h]
  | u :: us, i, c, w, h, hs, hf, ho => by
    simp only [List.length_cons] at hs hf
    rw [Go.storeCells, Sem.run_bind, addr_add, run_store _ _ _ _ _ (ho u (by simp)), cell_of h, frozen_of h]
    obtain ⟨x, hx⟩ : ∃ x, c[o + i]? = some x := ⟨c[o + i], by simp⟩
    have hfz : (decide (fz.1 ≤ o + i) && decide (o + i < fz.2)) = false := by
      have := hf 0 (by omega)
      simp only [Nat.add_zero] at this
      by_cases h1 : fz.1 ≤ o + i
      · have h2 : ¬ o + i < fz.2 := fun h2 => this ⟨h1, h2⟩
        simp [h1, h2]
      · simp [h1]
    rw [hx]
    simp only [hfz, Bool.false_eq_true, if_false, Result.andThen_ok]
    rw [setCell_eq h]
    have hl : g < w.heap.size := (Array.getElem?_eq_some_iff.1 h).1
    have h' : (setBlk w g (.cells (c.setIfInBounds (o + i) u) e fz)).heap[g]? = some (.cells (c.setIfInBounds (o + i) u) e fz) := by rw [setBlk_get, if_pos ⟨rfl, hl⟩]
    rw [run_storeCells us (i + 1) _ _ h' (by simp; omega) (fun j hj => by have := hf (j + 1) (by omega); rw [show o + (i + 1) + j = o + i + (j + 1) from by omega]; exact this) (fun x hx => ho x (by simp [hx])), setBlk_twice]
    simp only [ovr]
    rfl
theorem run_loadCells_from {P : Program} {w : World} {g o n : Nat} {c : Array Value} {e : TypeId} {fz : Nat × Nat} {us : List Value} (h : w.heap[g]? = some (.cells c e fz)) (hn : us.length = n)
    (hu : ∀ j u, us[j]? = some u → c[o + j]? = some u) : (Go.loadCells ⟨g, o, none⟩ n).run P w = .ok us.toArray w := by
  subst hn
  exact run_loadCells_list (P := P) (w := w) ⟨g, o, none⟩ us fun j v hv => by rw [addr_add, cell_of h]; exact hu j v hv

/-! What it means that a world holds an abstract state -/
def CellOk (n : Nat) (φ : Emb) (a : AV) (x : Option Value) : Prop := ∃ u, x = some u ∧ Rep n φ a u
def KindOk (im : Img) (B : Blk) (size : Nat) (fz : Nat × Nat) : Prop :=
  match B.k with
  | .ro => im.add + B.hi * B.z ≤ size
  | .rw => im.add = 0 ∧ size = B.hi * B.z ∧ fz = (0, 0)
  | .opn _ => size = im.add + im.phys ∧ B.hi * B.z ≤ im.phys ∧ B.room * B.z ≤ im.phys
def ElOk (n : Nat) (φ : Emb) (im : Img) (B : Blk) (c : Array Value) : Prop :=
  ∀ i, i < B.hi → ∃ l, B.t.get i = some l ∧ l.length = B.z ∧ ∀ (r : Nat) (a : AV), l[r]? = some a → CellOk n φ a c[im.add + (i * B.z + r)]?
def BlkOk (n : Nat) (φ : Emb) (im : Img) (B : Blk) (O : Option Obj) : Prop :=
  ∃ c fz, O = some (.cells c B.e fz) ∧ im.z = B.z ∧ 1 ≤ B.z ∧ ElOk n φ im B c ∧ KindOk im B c.size fz
def EntsOk (n : Nat) (φ : Emb) (es : List (AV × AV)) (ents : List MapEntry) : Prop :=
  ents.length = es.length ∧ ∀ (i : Nat) (p : AV × AV) (e : MapEntry), es[i]? = some p → ents[i]? = some e → Rep n φ p.1 e.key ∧ Rep n φ p.2 e.val
def ObjOk (n : Nat) (φ : Emb) (im : Img) (o : AObj) (O : Option Obj) : Prop :=
  match o with
  | .cells B => BlkOk n φ im B O
  | .map es => ∃ ents clk, O = some (.map ents clk) ∧ EntsOk n φ es ents.toList
  | .siter rest pos => im.add = 0 ∧ ∃ s, O = some (.stringIter s pos) ∧ s.data.toList.drop pos = rest
  | .loop st pend fr ps assign body => ∃ fn tmps defs, O = some (.loop { state := st, pending := pend, fn, tmps, params := ps.toArray, assign, body, defers := defs }) ∧ FrR n φ fr ⟨tmps, []⟩
def AObj.wr : AObj → Bool
  | .cells B => (match B.k with | .ro => false | _ => true)
  | _ => true
def AObj.fam : AObj → Option Nat
  | .cells B => (match B.k with | .opn f => some f | _ => none)
  | _ => none
def Seen (st : St) (b : Nat) (o : AObj) : Prop := ∀ f, o.fam = some f → ∃ F, st.fams.get f = some F ∧ F.since ≤ b
def FzOk (mark size : Nat) (fz : Nat × Nat) (en : Nat) : Prop :=
  (mark = 0 → fz = (0, 0)) ∧ (mark = 1 → fz.2 ≤ en) ∧ (mark ≠ 1 → ∀ off, off < size → ¬ (fz.1 ≤ off ∧ off < fz.2))
structure FamOk (φ : Emb) (st : St) (w : World) (f : Nat) (F : Fam) (BL : Blk) : Prop where
  live : st.heap.get F.live = some (.cells BL)
  kind : BL.k = .opn f
  since : F.since ≤ F.live
  last : ∀ b B, st.heap.get b = some (.cells B) → B.k = .opn f → b ≤ F.live
  ends : ∀ b B, st.heap.get b = some (.cells B) → B.k = .opn f → F.since ≤ b → (φ b).blk = (φ F.live).blk → (φ b).add + B.hi * B.z ≤ (φ F.live).add + BL.hi * BL.z
  froz : ∀ c e fz, w.heap[(φ F.live).blk]? = some (.cells c e fz) → FzOk F.mark c.size fz ((φ F.live).add + BL.hi * BL.z)
structure Sim (B0 : Nat) (φ : Emb) (st : St) (w : World) : Prop where
  base : Base st.next φ
  b0 : B0 ≤ w.heap.size
  famk : ∀ b o f, st.heap.get b = some o → o.fam = some f → ∃ F, st.fams.get f = some F
  dom : ∀ b o, st.heap.get b = some o → b < st.next
  bd : ∀ b o, st.heap.get b = some o → (φ b).blk < w.heap.size
  low : ∀ b o, st.heap.get b = some o → o.wr = true → B0 ≤ (φ b).blk
  inj : ∀ b b' o o', st.heap.get b = some o → st.heap.get b' = some o' → (φ b).blk = (φ b').blk → b = b' ∨ ∃ f, o.fam = some f ∧ o'.fam = some f
  obj : ∀ b o, st.heap.get b = some o → Seen st b o → ObjOk st.next φ (φ b) o w.heap[(φ b).blk]?
  fam : ∀ f F, st.fams.get f = some F → f < st.next ∧ ∃ BL, FamOk φ st w f F BL
  on : ∀ b o, st.heap.get b = some o → (φ b).z ≠ 0
/-- A number that stands for a block already. -/
def Old (φ : Emb) (st : St) (b : Nat) : Prop := b < st.next ∧ (φ b).z ≠ 0
theorem Sim.old {B0 : Nat} {φ : Emb} {st : St} {w : World} (h : Sim B0 φ st w) (b : Nat) (o : AObj) (hb : st.heap.get b = some o) : Old φ st b := ⟨h.dom b o hb, h.on b o hb⟩
theorem Old.not {φ : Emb} {st : St} {b : Nat} (h : st.next ≤ b) : ¬ Old φ st b := fun k => absurd k.1 (by omega)

/-- What a step leaves. -/
structure PostW (B0 : Nat) (φ : Emb) (st : St) (w : World) (φ' : Emb) (st' : St) (w' : World) : Prop where
  agr : Agr st.next φ φ'
  nx : st.next ≤ st'.next
  sim : Sim B0 φ' st' w'
  keep : ∀ r, r < w.heap.size → (∀ b o, st.heap.get b = some o → o.wr = true → (φ b).blk ≠ r) → w'.heap[r]? = w.heap[r]?
  size : w.heap.size ≤ w'.heap.size
  os : w'.os = w.os
  tape : w'.tape = w.tape
  output : w'.output = w.output
  img : ∀ b o, st'.heap.get b = some o → (o.wr = true → (∃ o0, st.heap.get b = some o0 ∧ o0.wr = true) ∨ ¬ Old φ st b) ∧
    (¬ Old φ st b → w.heap.size ≤ (φ' b).blk ∨ ∃ b0 o0, st.heap.get b0 = some o0 ∧ o0.wr = true ∧ (φ b0).blk = (φ' b).blk) ∧ (Old φ st b → ∃ o0, st.heap.get b = some o0)

/-- The same; and no number that was reserved is taken. -/
structure Post (B0 : Nat) (φ : Emb) (st : St) (w : World) (φ' : Emb) (st' : St) (w' : World) : Prop extends PostW B0 φ st w φ' st' w' where
  off : ∀ b, b < st.next → (φ b).z = 0 → (φ' b).z = 0
theorem PostW.refl {B0 : Nat} {φ : Emb} {st : St} {w : World} (h : Sim B0 φ st w) : PostW B0 φ st w φ st w :=
  ⟨Agr.refl _ _, Nat.le_refl _, h, fun _ _ _ => rfl, Nat.le_refl _, rfl, rfl, rfl, fun b o hb => ⟨fun hw => .inl ⟨o, hb, hw⟩, fun h1 => absurd (h.old b o hb) h1, fun _ => ⟨o, hb⟩⟩⟩
theorem PostW.up {B0 : Nat} {φ φ' : Emb} {st st' : St} {w w' : World} (h : PostW B0 φ st w φ' st' w') {b : Nat} (k : Old φ st b) : Old φ' st' b :=
  ⟨Nat.lt_of_lt_of_le k.1 h.nx, by rw [h.agr b k.1 k.2]; exact k.2⟩
theorem PostW.trans {B0 : Nat} {φ φ' φ'' : Emb} {st st' st'' : St} {w w' w'' : World} (h : PostW B0 φ st w φ' st' w') (k : PostW B0 φ' st' w' φ'' st'' w'') :
    PostW B0 φ st w φ'' st'' w'' := by
  refine ⟨h.agr.trans k.agr h.nx, Nat.le_trans h.nx k.nx, k.sim, ?_, Nat.le_trans h.size k.size, k.os.trans h.os, k.tape.trans h.tape, k.output.trans h.output, ?_⟩
  · intro r hr hno
    rw [k.keep r (Nat.lt_of_lt_of_le hr h.size), h.keep r hr hno]
    intro b o hb hw heq
    obtain ⟨i1, i2, i3⟩ := h.img b o hb
    by_cases hlt : Old φ st b
    · rcases i1 hw with ⟨o0, h0, hw0⟩ | h0
      · exact hno b o0 h0 hw0 (by rw [← h.agr b hlt.1 hlt.2]; exact heq)
      · exact h0 hlt
    · rcases i2 hlt with h2 | ⟨b0, o0, h0, hw0, he⟩
      · omega
      · exact hno b0 o0 h0 hw0 (he.trans heq)
  · intro b o hb
    obtain ⟨i1, i2, i3⟩ := k.img b o hb
    refine ⟨fun hw => ?_, fun hge => ?_, fun hlt => ?_⟩
    · rcases i1 hw with ⟨o0, h0, hw0⟩ | h0
      · exact (h.img b o0 h0).1 hw0
      · exact .inr fun ho => h0 (h.up ho)
    · by_cases hlt : Old φ' st' b
      · obtain ⟨o0, h0⟩ := i3 hlt
        rw [k.agr b hlt.1 hlt.2]
        exact (h.img b o0 h0).2.1 hge
      · rcases i2 hlt with h2 | ⟨b0, o0, h0, hw0, he⟩
        · exact .inl (Nat.le_trans h.size h2)
        · rw [← he]
          by_cases hlt0 : Old φ st b0
          · rcases (h.img b0 o0 h0).1 hw0 with ⟨o1, h1, hw1⟩ | h1
            · exact .inr ⟨b0, o1, h1, hw1, (h.agr b0 hlt0.1 hlt0.2).symm ▸ rfl⟩
            · exact absurd hlt0 h1
          · exact (h.img b0 o0 h0).2.1 hlt0
    · obtain ⟨o0, h0⟩ := i3 (h.up hlt)
      exact (h.img b o0 h0).2.2 hlt
theorem Post.refl {B0 : Nat} {φ : Emb} {st : St} {w : World} (h : Sim B0 φ st w) : Post B0 φ st w φ st w := ⟨PostW.refl h, fun _ _ h => h⟩
theorem Post.up {B0 : Nat} {φ φ' : Emb} {st st' : St} {w w' : World} (h : Post B0 φ st w φ' st' w') {b : Nat} (k : Old φ st b) : Old φ' st' b := h.toPostW.up k
theorem Post.trans {B0 : Nat} {φ φ' φ'' : Emb} {st st' st'' : St} {w w' w'' : World} (h : Post B0 φ st w φ' st' w') (k : Post B0 φ' st' w' φ'' st'' w'') : Post B0 φ st w φ'' st'' w'' :=
  ⟨h.toPostW.trans k.toPostW, fun b hb hz => k.off b (Nat.lt_of_lt_of_le hb h.nx) (h.off b hb hz)⟩
theorem Post.rep {B0 : Nat} {φ φ' : Emb} {st st' : St} {w w' : World} (h : Post B0 φ st w φ' st' w') {v : AV} {u : Value} (hr : Rep st.next φ v u) : Rep st'.next φ' v u := hr.mono h.nx h.agr
theorem Post.frR {B0 : Nat} {φ φ' : Emb} {st st' : St} {w w' : World} (h : Post B0 φ st w φ' st' w') {fr : Fr} {a : Act} (hr : FrR st.next φ fr a) : FrR st'.next φ' fr a := hr.mono h.nx h.agr

/-! Readings move on with the embedding -/
theorem CellOk.mono {n m : Nat} {φ φ' : Emb} {a : AV} {x : Option Value} (h : CellOk n φ a x) (hm : n ≤ m) (ha : Agr n φ φ') : CellOk m φ' a x :=
  let ⟨u, h1, h2⟩ := h; ⟨u, h1, h2.mono hm ha⟩
theorem ElOk.mono {n m : Nat} {φ φ' : Emb} {im : Img} {B : Blk} {c : Array Value} (h : ElOk n φ im B c) (hm : n ≤ m) (ha : Agr n φ φ') : ElOk m φ' im B c :=
  fun i hi => let ⟨l, h1, h2, h3⟩ := h i hi; ⟨l, h1, h2, fun r a hr => (h3 r a hr).mono hm ha⟩
theorem ObjOk.mono {n m : Nat} {φ φ' : Emb} {im : Img} {o : AObj} {O : Option Obj} (h : ObjOk n φ im o O) (hm : n ≤ m) (ha : Agr n φ φ') : ObjOk m φ' im o O := by
  cases o with
  | cells B => obtain ⟨c, fz, h1, h2, h3, h4, h5⟩ := h; exact ⟨c, fz, h1, h2, h3, h4.mono hm ha, h5⟩
  | map es => obtain ⟨ents, clk, h1, h2, h3⟩ := h; exact ⟨ents, clk, h1, h2, fun i p e hp he => ⟨(h3 i p e hp he).1.mono hm ha, (h3 i p e hp he).2.mono hm ha⟩⟩
  | siter rest pos => exact h
  | loop st pend fr ps a b => obtain ⟨fn, tmps, defs, h1, h2⟩ := h; exact ⟨fn, tmps, defs, h1, h2.mono hm ha⟩

theorem cellsOf_eq {st : St} {b : Nat} {B : Blk} : cellsOf st b = some B ↔ st.heap.get b = some (.cells B) ∧ Seen st b (.cells B) := by
  unfold cellsOf
  cases h : st.heap.get b with
  | none => simp
  | some o =>
    cases o with
    | cells B' =>
      simp only [Option.some.injEq, AObj.cells.injEq, seenBlk]
      cases hk : B'.k with
      | ro => simp only [Option.some.injEq]; constructor
              · rintro rfl; exact ⟨rfl, fun f hf => by simp [AObj.fam, hk] at hf⟩
              · exact fun h => h.1
      | rw => simp only [Option.some.injEq]; constructor
              · rintro rfl; exact ⟨rfl, fun f hf => by simp [AObj.fam, hk] at hf⟩
              · exact fun h => h.1
      | opn f =>
        simp only [bnd_eq, cnd_eq, ble_true, Option.some.injEq]
        constructor
        · rintro ⟨F, hF, hle, rfl⟩; exact ⟨rfl, fun g hg => by simp [AObj.fam, hk] at hg; subst hg; exact ⟨F, hF, hle⟩⟩
        · rintro ⟨rfl, hs⟩
          obtain ⟨F, hF, hle⟩ := hs f (by simp [AObj.fam, hk])
          exact ⟨F, hF, hle, rfl⟩
    | _ => simp
theorem Sim.blk {B0 : Nat} {φ : Emb} {st : St} {w : World} (h : Sim B0 φ st w) {b : Nat} {B : Blk} (hb : cellsOf st b = some B) : BlkOk st.next φ (φ b) B w.heap[(φ b).blk]? := by
  obtain ⟨h1, h2⟩ := cellsOf_eq.1 hb
  exact h.obj b _ h1 h2

/-! Reading -/
theorem getEls_ok {n : Nat} {φ : Emb} {im : Img} {B : Blk} {c : Array Value} (h : ElOk n φ im B c) : ∀ (k i : Nat) (l : List AV), i + k ≤ B.hi → getEls B.t i k = some l →
    l.length = k * B.z ∧ ∀ (j : Nat) (a : AV), l[j]? = some a → CellOk n φ a c[im.add + (i * B.z + j)]?
  | 0, i, l, _, hg => by simp only [getEls, Option.some.injEq] at hg; subst hg; simp
  | k + 1, i, l, hi, hg => by
    simp only [getEls, bnd_eq, Option.some.injEq] at hg
    obtain ⟨x, hx, r, hr, rfl⟩ := hg
    obtain ⟨x', hx', hl, hc⟩ := h i (by omega)
    rw [hx] at hx'; obtain rfl := Option.some.inj hx'
    obtain ⟨hl2, hc2⟩ := getEls_ok h k (i + 1) r (by omega) hr
    refine ⟨by rw [List.length_append, hl, hl2, Nat.add_mul, Nat.one_mul, Nat.add_comm], fun j a ha => ?_⟩
    by_cases hj : j < B.z
    · rw [List.getElem?_append_left (by omega)] at ha
      exact hc j a ha
    · rw [List.getElem?_append_right (by omega), hl] at ha
      have := hc2 (j - B.z) a ha
      rwa [show (i + 1) * B.z + (j - B.z) = i * B.z + j from by rw [Nat.add_mul, Nat.one_mul]; omega] at this
theorem Blk.load_ok {n : Nat} {φ : Emb} {im : Img} {B : Blk} {c : Array Value} (h : ElOk n φ im B c) {off k : Nat} {l : List AV} (hl : B.load off k = some l) :
    l.length = k ∧ ∀ (j : Nat) (a : AV), l[j]? = some a → CellOk n φ a c[im.add + (off + j)]? := by
  unfold Blk.load at hl
  cases k with
  | zero => simp only [Option.some.injEq] at hl; subst hl; simp
  | succ k =>
    simp only at hl
    have hdm := Nat.div_add_mod off B.z
    cases h1 : Nat.ble (Nat.add (Nat.mod off B.z) (k + 1)) B.z with
    | true =>
      simp only [h1, cond_true, bnd_eq] at hl
      obtain ⟨e, he, ht⟩ := hl
      simp only [Blk.el, cnd_eq, blt_true] at he
      obtain ⟨hlt, he⟩ := he
      obtain ⟨e', he', hz, hc⟩ := h _ hlt
      rw [he] at he'; obtain rfl := Option.some.inj he'
      obtain ⟨hle, rfl⟩ := (takeN_eq _ _ _).1 ht
      refine ⟨by rw [List.length_take]; omega, fun j a ha => ?_⟩
      rw [List.getElem?_take] at ha
      by_cases hj : j < k + 1
      · rw [if_pos hj, List.getElem?_drop] at ha
        have := hc _ a ha
        rwa [show Nat.div off B.z * B.z + (Nat.mod off B.z + j) = off + j from by
          have : B.z * (off / B.z) = Nat.div off B.z * B.z := Nat.mul_comm _ _
          have h3 : off % B.z = Nat.mod off B.z := rfl
          omega] at this
      · rw [if_neg hj] at ha; cases ha
    | false =>
      simp only [h1, cond_false, cond_eq, Bool.and_eq_true, beq_true, ble_true] at hl
      obtain ⟨⟨⟨hm, hm2⟩, hle⟩, hg⟩ := hl
      obtain ⟨g1, g2⟩ := getEls_ok h _ _ l hle hg
      have e1 : (k + 1) / B.z * B.z = k + 1 := by
        have := Nat.div_add_mod (k + 1) B.z
        have h3 : (k + 1) % B.z = 0 := hm2
        rw [Nat.mul_comm]; omega
      have e2 : off / B.z * B.z = off := by
        have h3 : off % B.z = 0 := hm
        rw [Nat.mul_comm]; omega
      refine ⟨g1.trans e1, fun j a ha => ?_⟩
      have := g2 j a ha
      rwa [show Nat.div off B.z * B.z = off from e2] at this
end Go.AE

namespace Go.AE
open Go Go.RowKit

def upd (φ : Emb) (n : Nat) (im : Img) : Emb := fun b => if b = n then im else φ b
theorem upd_same (φ : Emb) (n : Nat) (im : Img) : upd φ n im n = im := if_pos rfl
theorem upd_ne (φ : Emb) {n b : Nat} (im : Img) (h : b ≠ n) : upd φ n im b = φ b := if_neg h
theorem agr_upd (φ : Emb) (n : Nat) (im : Img) : Agr n φ (upd φ n im) := fun b hb _ => upd_ne φ im (by omega)

theorem Base.upd {n : Nat} {φ : Emb} (h : Base n φ) (im : Img) : Base (n + 1) (upd φ n im) :=
  ⟨by have := h.le; omega, fun g hg => by have := h.le; rw [upd_ne φ im (by omega)]; exact h.id g hg, fun g hg => by have := h.le; rw [upd_ne φ im (by omega)]; exact h.on g hg⟩

/-- A new block. -/
theorem Post.alloc {B0 : Nat} {φ : Emb} {st : St} {w w' : World} (h : Sim B0 φ st w) {o : AObj} {O : Obj} {im : Img} {fams' : T Fam} (him : im.blk = w.heap.size)
    (hh : w'.heap = w.heap.push O) (h1 : w'.os = w.os) (h2 : w'.tape = w.tape) (h3 : w'.output = w.output)
    (hf : (o.fam = none ∧ fams' = st.fams) ∨ (∃ B mark, o = .cells B ∧ B.k = .opn st.next ∧ fams' = st.fams.set st.next ⟨st.next, st.next, mark⟩ ∧
      ∀ c e fz, O = .cells c e fz → FzOk mark c.size fz (im.add + B.hi * B.z)))
    (ho : ObjOk (st.next + 1) (upd φ st.next im) im o (some O)) (hon : im.z ≠ 0 := by first | decide | (dsimp only; omega)) :
    Post B0 φ st w (upd φ st.next im) ⟨st.heap.set st.next o, fams', Nat.succ st.next⟩ w' := by
  have hnew : w'.heap[w.heap.size]? = some O := by rw [hh]; simp
  have hold : ∀ r, r < w.heap.size → w'.heap[r]? = w.heap[r]? := fun r hr => by rw [hh, Array.getElem?_push, if_neg (by omega)]
  have hsz : w'.heap.size = w.heap.size + 1 := by rw [hh]; simp
  have hget : ∀ b x, (st.heap.set st.next o).get b = some x → (b = st.next ∧ x = o) ∨ (b < st.next ∧ st.heap.get b = some x) := by
    intro b x hb
    rw [T.get_set] at hb
    by_cases e : b = st.next
    · rw [if_pos e] at hb; exact .inl ⟨e, (Option.some.inj hb).symm⟩
    · rw [if_neg e] at hb; exact .inr ⟨h.dom b x hb, hb⟩
  have hofam : ∀ f, o.fam = some f → f = st.next := by
    intro f hf'
    rcases hf with ⟨hn, _⟩ | ⟨B, mark, rfl, hk, _, _⟩
    · rw [hn] at hf'; cases hf'
    · simp [AObj.fam, hk] at hf'; exact hf'.symm
  have hfold : ∀ f, f < st.next → fams'.get f = st.fams.get f := by
    intro f hlt
    rcases hf with ⟨_, rfl⟩ | ⟨B, mark, _, _, rfl, _⟩
    · rfl
    · exact T.get_set_ne _ _ (by omega)
  have hflt : ∀ b x f, st.heap.get b = some x → x.fam = some f → f < st.next := fun b x f hb hx => by
    obtain ⟨F, hF⟩ := h.famk b x f hb hx
    exact (h.fam f F hF).1
  refine ⟨⟨agr_upd _ _ _, Nat.le_succ _, ⟨h.base.upd im, by rw [hsz]; have := h.b0; omega, ?_, ?_, ?_, ?_, ?_, ?_, ?_, ?_⟩, fun r hr _ => hold r hr, by omega, h1, h2, h3, ?_⟩, fun b hb hz => by rw [upd_ne _ _ (by omega)]; exact hz⟩
  · intro b x f hb hx
    rcases hget b x hb with ⟨rfl, rfl⟩ | ⟨hlt, hb'⟩
    · have := hofam f hx; subst this
      rcases hf with ⟨hn, _⟩ | ⟨B, mark, _, _, rfl, _⟩
      · rw [hn] at hx; cases hx
      · exact ⟨_, T.get_set_same _ _ _⟩
    · obtain ⟨F, hF⟩ := h.famk b x f hb' hx
      exact ⟨F, by rw [← hF]; exact hfold f (h.fam f F hF).1⟩
  · intro b x hb
    rcases hget b x hb with ⟨rfl, _⟩ | ⟨hlt, _⟩
    · exact Nat.lt_succ_self _
    · exact Nat.lt_succ_of_lt hlt
  · intro b x hb
    rcases hget b x hb with ⟨rfl, _⟩ | ⟨hlt, hb'⟩
    · rw [upd_same, him, hsz]; omega
    · rw [upd_ne _ _ (by omega), hsz]; have := h.bd b x hb'; omega
  · intro b x hb hw
    rcases hget b x hb with ⟨rfl, _⟩ | ⟨hlt, hb'⟩
    · rw [upd_same, him]; exact h.b0
    · rw [upd_ne _ _ (by omega)]; exact h.low b x hb' hw
  · intro b b' x x' hb hb' he
    rcases hget b x hb with ⟨rfl, rfl⟩ | ⟨hlt, hb1⟩ <;> rcases hget b' x' hb' with ⟨rfl, rfl⟩ | ⟨hlt', hb1'⟩
    · exact .inl rfl
    · rw [upd_same, him, upd_ne _ _ (by omega)] at he; have := h.bd b' x' hb1'; omega
    · rw [upd_same, him, upd_ne _ _ (by omega)] at he; have := h.bd b x hb1; omega
    · rw [upd_ne _ _ (by omega), upd_ne _ _ (by omega)] at he; exact h.inj b b' x x' hb1 hb1' he
  · intro b x hb hs
    rcases hget b x hb with ⟨rfl, rfl⟩ | ⟨hlt, hb'⟩
    · rw [upd_same, him, hnew]; exact ho
    · rw [upd_ne _ _ (by omega), hold _ (h.bd b x hb')]
      refine (h.obj b x hb' fun f hx => ?_).mono (Nat.le_succ _) (agr_upd _ _ _)
      obtain ⟨F, hF, hle⟩ := hs f hx
      exact ⟨F, by rw [← hfold f (hflt b x f hb' hx)]; exact hF, hle⟩
  · intro f F hF
    by_cases hlt : f < st.next
    · obtain ⟨_, BL, hBL⟩ := h.fam f F (by rw [← hfold f hlt]; exact hF)
      have hll : F.live < st.next := h.dom _ _ hBL.live
      refine ⟨Nat.lt_succ_of_lt hlt, BL, ⟨?_, hBL.kind, hBL.since, ?_, ?_, ?_⟩⟩
      · show (st.heap.set st.next o).get F.live = _
        rw [T.get_set_ne _ _ (by omega)]; exact hBL.live
      · intro b B hb hk
        rcases hget b _ hb with ⟨rfl, e⟩ | ⟨_, hb'⟩
        · have := hofam f (by rw [← e]; simp [AObj.fam, hk]); omega
        · exact hBL.last b B hb' hk
      · intro b B hb hk hle he
        rcases hget b _ hb with ⟨rfl, e⟩ | ⟨hb1, hb'⟩
        · have := hofam f (by rw [← e]; simp [AObj.fam, hk]); omega
        · rw [upd_ne _ _ (by omega), upd_ne _ _ (by omega)] at *; exact hBL.ends b B hb' hk hle he
      · intro c e fz hc
        rw [upd_ne _ _ (by omega)] at *
        exact hBL.froz c e fz (by rw [← hold _ (h.bd _ _ hBL.live)]; exact hc)
    · rcases hf with ⟨_, rfl⟩ | ⟨B, mark, rfl, hk, rfl, hz⟩
      · exact absurd (h.fam f F hF).1 hlt
      · by_cases e : f = st.next
        · subst e
          have hF' : (st.fams.set st.next ⟨st.next, st.next, mark⟩).get st.next = some F := hF
          rw [T.get_set_same] at hF'
          obtain rfl := Option.some.inj hF'
          refine ⟨Nat.lt_succ_self _, B, ⟨T.get_set_same _ _ _, hk, Nat.le_refl _, ?_, ?_, ?_⟩⟩
          · intro b B' hb hk'
            rcases hget b _ hb with ⟨rfl, _⟩ | ⟨hb1, hb'⟩
            · exact Nat.le_refl _
            · exact Nat.le_of_lt hb1
          · intro b B' hb hk' hle he
            rcases hget b _ hb with ⟨rfl, e⟩ | ⟨hb1, hb'⟩
            · obtain rfl := AObj.cells.inj e; exact Nat.le_refl _
            · have : st.next ≤ b := hle
              omega
          · intro c e fz hc
            simp only [upd_same] at *
            rw [him, hnew] at hc
            exact hz c e fz (Option.some.inj hc)
        · have hF' : (st.fams.set st.next ⟨st.next, st.next, mark⟩).get f = some F := hF
          rw [T.get_set_ne _ _ e] at hF'
          exact absurd (h.fam f F hF').1 hlt
  · intro b x hb
    rcases hget b x hb with ⟨rfl, _⟩ | ⟨hlt, hb'⟩
    · rw [upd_same]; exact hon
    · rw [upd_ne _ _ (by omega)]; exact h.on b x hb'
  · intro b x hb
    rcases hget b x hb with ⟨rfl, rfl⟩ | ⟨hlt, hb'⟩
    · exact ⟨fun _ => .inr (Old.not (Nat.le_refl _)), fun _ => .inl (by rw [upd_same, him]; exact Nat.le_refl _), fun hlt => absurd hlt.1 (Nat.lt_irrefl _)⟩
    · exact ⟨fun hw => .inl ⟨x, hb', hw⟩, fun hge => absurd (h.old b x hb') hge, fun _ => ⟨x, hb'⟩⟩

/-- A changed block. -/
theorem Post.change {B0 : Nat} {φ : Emb} {st : St} {w w' : World} (h : Sim B0 φ st w) {b : Nat} {o o' : AObj} {O' : Obj} {fams' : T Fam} (hb : st.heap.get b = some o) (hw : o.wr = true)
    (hfam : o'.fam = o.fam)
    (hh : w'.heap = w.heap.setIfInBounds (φ b).blk O') (h1 : w'.os = w.os) (h2 : w'.tape = w.tape) (h3 : w'.output = w.output)
    (hf : (o.fam = none ∧ fams' = st.fams) ∨ (∃ B B' f F, o = .cells B ∧ o' = .cells B' ∧ B'.k = .opn f ∧ B.k = .opn f ∧ B'.hi = B.hi ∧ B'.z = B.z ∧ st.fams.get f = some F ∧ F.live = b ∧
      fams' = st.fams.set f (F.seen b) ∧ ∀ c e fz, O' = .cells c e fz → FzOk F.mark c.size fz ((φ b).add + B.hi * B.z)))
    (ho : ObjOk st.next φ (φ b) o' (some O')) :
    Post B0 φ st w φ ⟨st.heap.set b o', fams', st.next⟩ w' := by
  have hbd := h.bd b o hb
  have hget' : ∀ r, w'.heap[r]? = if r = (φ b).blk then some O' else w.heap[r]? := by
    intro r
    rw [hh, Array.getElem?_setIfInBounds]
    by_cases e : (φ b).blk = r
    · subst e; simp [hbd]
    · rw [if_neg e, if_neg (fun h => e h.symm)]
  have hsz : w'.heap.size = w.heap.size := by rw [hh]; simp
  have hget : ∀ c x, (st.heap.set b o').get c = some x → (c = b ∧ x = o') ∨ (c ≠ b ∧ st.heap.get c = some x) := by
    intro c x hc
    rw [T.get_set] at hc
    by_cases e : c = b
    · rw [if_pos e] at hc; exact .inl ⟨e, (Option.some.inj hc).symm⟩
    · rw [if_neg e] at hc; exact .inr ⟨e, hc⟩
  have hold : ∀ c x, (st.heap.set b o').get c = some x → ∃ x0, st.heap.get c = some x0 ∧ x.fam = x0.fam ∧ (x.wr = true → x0.wr = true) := by
    intro c x hc
    rcases hget c x hc with ⟨rfl, rfl⟩ | ⟨_, hc'⟩
    · exact ⟨o, hb, hfam, fun _ => hw⟩
    · exact ⟨x, hc', rfl, fun h => h⟩
  -- families as they were, but for what has been seen
  have hfams : ∀ f F', fams'.get f = some F' → ∃ F, st.fams.get f = some F ∧ F'.live = F.live ∧ F'.mark = F.mark ∧ (F.since ≤ F'.since ∧ F'.since ≤ F.live) ∧ (F'.since = F.since ∨ F'.since = b ∧ F.live = b ∧ o.fam = some f) := by
    intro f F' hF'
    rcases hf with ⟨_, rfl⟩ | ⟨B, B', g, G, rfl, rfl, hk', hk, _, _, hG, hl, rfl, _⟩
    · obtain ⟨_, BL, hBL⟩ := h.fam f F' hF'
      exact ⟨F', hF', rfl, rfl, ⟨Nat.le_refl _, hBL.since⟩, .inl rfl⟩
    · rw [T.get_set] at hF'
      by_cases e : f = g
      · subst e
        rw [if_pos rfl] at hF'
        obtain rfl := Option.some.inj hF'
        obtain ⟨_, BL, hBL⟩ := h.fam f G hG
        obtain ⟨live, since, mark⟩ := G
        exact ⟨_, hG, rfl, rfl, ⟨by have := hBL.since; simp only [Fam.seen] at *; omega, by simp only [Fam.seen] at *; omega⟩, .inr ⟨rfl, hl, by simp [AObj.fam, hk]⟩⟩
      · rw [if_neg e] at hF'
        obtain ⟨_, BL, hBL⟩ := h.fam f F' hF'
        exact ⟨F', hF', rfl, rfl, ⟨Nat.le_refl _, hBL.since⟩, .inl rfl⟩
  have hfex : ∀ f F, st.fams.get f = some F → ∃ F', fams'.get f = some F' := by
    intro f F hF
    rcases hf with ⟨_, rfl⟩ | ⟨B, B', g, G, rfl, rfl, hk', hk, _, _, hG, hl, rfl, _⟩
    · exact ⟨F, hF⟩
    · rw [T.get_set]; by_cases e : f = g
      · rw [if_pos e]; exact ⟨_, rfl⟩
      · rw [if_neg e]; exact ⟨F, hF⟩
  refine ⟨⟨Agr.refl _ _, Nat.le_refl _, ⟨h.base, by rw [hsz]; exact h.b0, ?_, ?_, ?_, ?_, ?_, ?_, ?_, fun c x hc => let ⟨x0, hc0, _⟩ := hold c x hc; h.on c x0 hc0⟩, ?_, by rw [hsz]; exact Nat.le_refl _, h1, h2, h3, ?_⟩, fun _ _ h => h⟩
  · intro c x f hc hx
    obtain ⟨x0, hc0, hf0, _⟩ := hold c x hc
    obtain ⟨F, hF⟩ := h.famk c x0 f hc0 (hf0 ▸ hx)
    exact hfex f F hF
  · intro c x hc; obtain ⟨x0, hc0, _, _⟩ := hold c x hc; exact h.dom c x0 hc0
  · intro c x hc; obtain ⟨x0, hc0, _, _⟩ := hold c x hc; rw [hsz]; exact h.bd c x0 hc0
  · intro c x hc hx; obtain ⟨x0, hc0, _, hw0⟩ := hold c x hc; exact h.low c x0 hc0 (hw0 hx)
  · intro c c' x x' hc hc' he
    obtain ⟨x0, hc0, hf0, _⟩ := hold c x hc
    obtain ⟨x0', hc0', hf0', _⟩ := hold c' x' hc'
    rw [hf0, hf0']
    exact h.inj c c' x0 x0' hc0 hc0' he
  · intro c x hc hs
    rcases hget c x hc with ⟨rfl, rfl⟩ | ⟨hne, hc'⟩
    · rw [hget', if_pos rfl]; exact ho
    · have hseen : Seen st c x := by
        intro f hx
        obtain ⟨F', hF', hle⟩ := hs f hx
        obtain ⟨F, hF, _, _, ⟨h5, _⟩, _⟩ := hfams f F' hF'
        exact ⟨F, hF, Nat.le_trans h5 hle⟩
      rw [hget']
      by_cases e : (φ c).blk = (φ b).blk
      · -- one of the same family: it is not seen any more
        rcases h.inj c b x o hc' hb e with e' | ⟨f, hx, hof⟩
        · exact absurd e' hne
        · obtain ⟨F', hF', hle⟩ := hs f hx
          rcases hf with ⟨hn, _⟩ | ⟨B, B', g, G, rfl, rfl, hk', hk, _, _, hG, hl, rfl, _⟩
          · rw [hn] at hof; cases hof
          · simp [AObj.fam, hk] at hof
            subst hof
            rw [T.get_set_same] at hF'
            obtain rfl := Option.some.inj hF'
            obtain ⟨_, BL, hBL⟩ := h.fam g G hG
            have hcle : c ≤ b := by
              cases x with
              | cells Bx =>
                cases hkx : Bx.k with
                | opn f' => simp [AObj.fam, hkx] at hx; subst hx; rw [← hl]; exact hBL.last c Bx hc' hkx
                | _ => simp [AObj.fam, hkx] at hx
              | _ => simp [AObj.fam] at hx
            obtain ⟨live, since, mark⟩ := G
            have : b ≤ c := hle
            omega
      · rw [if_neg e]; exact h.obj c x hc' hseen
  · intro f F' hF'
    obtain ⟨F, hF, hlv, hmk, ⟨h5, h6⟩, h7⟩ := hfams f F' hF'
    obtain ⟨hlt, BL, hBL⟩ := h.fam f F hF
    refine ⟨hlt, ?_⟩
    by_cases e : F.live = b
    · -- the family of the changed block
      have hof : o.fam = some f := by
        have := hBL.live; rw [e, hb] at this; obtain rfl := Option.some.inj this; simp [AObj.fam, hBL.kind]
      rcases hf with ⟨hn, _⟩ | ⟨B, B', g, G, rfl, rfl, hk', hk, hhi, hz, hG, hl, rfl, hfz⟩
      · rw [hn] at hof; cases hof
      · simp [AObj.fam, hk] at hof
        subst hof
        rw [hG] at hF; obtain rfl := Option.some.inj hF
        have hBB : BL = B := by have := hBL.live; rw [e, hb] at this; exact (AObj.cells.inj (Option.some.inj this)).symm
        subst hBB
        refine ⟨B', ⟨by rw [hlv, e]; exact T.get_set_same _ _ _, hk', by rw [hlv]; exact h6, ?_, ?_, ?_⟩⟩
        · intro c C hc hkc
          rcases hget c _ hc with ⟨rfl, _⟩ | ⟨_, hc'⟩
          · rw [hlv, e]; exact Nat.le_refl _
          · rw [hlv]; exact hBL.last c C hc' hkc
        · intro c C hc hkc hle he
          rw [hlv] at he ⊢
          rw [hhi, hz]
          rcases hget c _ hc with ⟨rfl, e2⟩ | ⟨_, hc'⟩
          · obtain rfl := AObj.cells.inj e2; rw [hhi, hz, e]; exact Nat.le_refl _
          · exact hBL.ends c C hc' hkc (Nat.le_trans h5 hle) he
        · intro c e2 fz hc
          rw [hlv, e, hget', if_pos rfl] at hc
          rw [hmk, hlv, e, hhi, hz]
          exact hfz c e2 fz (Option.some.inj hc)
    · -- another family
      have hsn : F'.since = F.since := by
        rcases h7 with h7 | ⟨_, h7, _⟩
        · exact h7
        · exact absurd h7 e
      refine ⟨BL, ⟨by rw [hlv]; exact (T.get_set_ne _ _ e).trans hBL.live, hBL.kind, by rw [hsn, hlv]; exact hBL.since, ?_, ?_, ?_⟩⟩
      · intro c C hc hkc
        rcases hget c _ hc with ⟨rfl, e2⟩ | ⟨_, hc'⟩
        · rw [hlv]
          cases o with
          | cells B0' =>
            have hkk : B0'.k = .opn f := by
              have : (AObj.cells C).fam = (AObj.cells B0').fam := by rw [e2]; exact hfam
              simp [AObj.fam, hkc] at this
              cases hk0 : B0'.k with
              | opn g => rw [hk0] at this; simp at this; rw [this]
              | _ => rw [hk0] at this; simp at this
            exact hBL.last c B0' hb hkk
          | _ =>
            have hn : (AObj.cells C).fam = none := by rw [e2, hfam]; rfl
            simp [AObj.fam, hkc] at hn
        · rw [hlv]; exact hBL.last c C hc' hkc
      · intro c C hc hkc hle he
        rw [hlv] at he ⊢
        rcases hget c _ hc with ⟨rfl, e2⟩ | ⟨_, hc'⟩
        · -- then the changed block is of this family, and its live one
          exfalso
          have hof : o.fam = some f := by rw [← hfam, ← e2]; simp [AObj.fam, hkc]
          rcases hf with ⟨hn, _⟩ | ⟨B, B', g, G, rfl, rfl, hk', hk, hhi, hz, hG, hl, rfl, hfz⟩
          · rw [hn] at hof; cases hof
          · simp [AObj.fam, hk] at hof
            subst hof
            rw [hG] at hF; obtain rfl := Option.some.inj hF
            exact e hl
        · exact hBL.ends c C hc' hkc (by rw [← hsn]; exact hle) he
      · intro c e2 fz hc
        rw [hlv, hget'] at hc
        have hne : (φ F.live).blk ≠ (φ b).blk := by
          intro he
          rcases h.inj F.live b _ o hBL.live hb he with e' | ⟨g, hg1, hg2⟩
          · exact e e'
          · simp [AObj.fam, hBL.kind] at hg1
            subst hg1
            rcases hf with ⟨hn, _⟩ | ⟨B, B', g, G, rfl, rfl, hk', hk, hhi, hz, hG, hl, rfl, hfz⟩
            · rw [hn] at hg2; cases hg2
            · simp [AObj.fam, hk] at hg2
              subst hg2
              rw [hG] at hF; obtain rfl := Option.some.inj hF
              exact e hl
        rw [if_neg hne] at hc
        rw [hmk, hlv]
        exact hBL.froz c e2 fz hc
  · intro r hr hno
    rw [hget', if_neg (fun he => hno b o hb hw he.symm)]
  · intro c x hc
    obtain ⟨x0, hc0, _, hw0⟩ := hold c x hc
    exact ⟨fun hx => .inl ⟨x0, hc0, hw0 hx⟩, fun hge => absurd (h.old c x0 hc0) hge, fun _ => ⟨x0, hc0⟩⟩
end Go.AE

namespace Go.AE
open Go Go.RowKit

theorem Fam.on_live (F : Fam) (m : Nat) : (F.on m).live = m := by cases F; rfl
theorem Fam.on_since (F : Fam) (m : Nat) : (F.on m).since = F.since := by cases F; rfl
theorem Fam.on_mark (F : Fam) (m : Nat) : (F.on m).mark = F.mark := by cases F; rfl
theorem Fam.marked_live (F : Fam) : F.marked.live = F.live := by cases F; rfl
theorem Fam.marked_since (F : Fam) : F.marked.since = F.since := by cases F; rfl
theorem Fam.marked_mark (F : Fam) : F.marked.mark = 1 := by cases F; rfl

theorem FzOk.fresh (mark size en : Nat) : FzOk mark size (0, 0) en := ⟨fun _ => rfl, fun _ => Nat.zero_le _, fun _ _ _ h => absurd h.2 (Nat.not_lt_zero _)⟩

/-- A row that is grown at its end: in its place (O'): 'w'' is w but for that block, whose elder cells stay; or in a new block. -/
theorem Post.extend {B0 : Nat} {φ : Emb} {st : St} {w w' : World} (h : Sim B0 φ st w) {b f : Nat} {F : Fam} {B B' : Blk} {im : Img} {c c' : Array Value} {fz fz' : Nat × Nat}
    (hb : st.heap.get b = some (.cells B)) (hk : B.k = .opn f) (hF : st.fams.get f = some F) (hl : F.live = b) (hk' : B'.k = .opn f)
    (hc : w.heap[(φ b).blk]? = some (.cells c B.e fz))
    (hplace : (im.blk = (φ b).blk ∧ w'.heap = w.heap.setIfInBounds (φ b).blk (.cells c' B'.e fz') ∧ B'.e = B.e ∧ fz' = fz ∧ c'.size = c.size ∧
        (∀ i, i < (φ b).add + B.hi * B.z → c'[i]? = c[i]?) ∧ (φ b).add + B.hi * B.z ≤ im.add + B'.hi * B'.z) ∨
      (im.blk = w.heap.size ∧ w'.heap = w.heap.push (.cells c' B'.e fz') ∧ fz' = (0, 0)))
    (h1 : w'.os = w.os) (h2 : w'.tape = w.tape) (h3 : w'.output = w.output)
    (ho : BlkOk (st.next + 1) (upd φ st.next im) im B' (some (.cells c' B'.e fz'))) :
    Post B0 φ st w (upd φ st.next im) ⟨st.heap.set st.next (.cells B'), st.fams.set f (F.on st.next), Nat.succ st.next⟩ w' := by
  have hbd := h.bd b _ hb
  obtain ⟨hflt, BL, hBL⟩ := h.fam f F hF
  have hBB : BL = B := by have := hBL.live; rw [hl, hb] at this; exact (AObj.cells.inj (Option.some.inj this)).symm
  subst hBB
  have hsz : w.heap.size ≤ w'.heap.size := by
    rcases hplace with ⟨_, hh, _⟩ | ⟨_, hh, _⟩ <;> rw [hh] <;> simp
  have hnew : w'.heap[im.blk]? = some (.cells c' B'.e fz') := by
    rcases hplace with ⟨hi, hh, _⟩ | ⟨hi, hh, _⟩
    · rw [hh, hi, Array.getElem?_setIfInBounds]; simp [hbd]
    · rw [hh, hi]; simp
  have hnlt : im.blk < w'.heap.size := (Array.getElem?_eq_some_iff.1 hnew).1
  have hold : ∀ r, r < w.heap.size → r ≠ (φ b).blk → w'.heap[r]? = w.heap[r]? := by
    intro r hr hne
    rcases hplace with ⟨hi, hh, _⟩ | ⟨hi, hh, _⟩
    · rw [hh, Array.getElem?_setIfInBounds, if_neg (Ne.symm hne)]
    · rw [hh, Array.getElem?_push, if_neg (by omega)]
  have hget : ∀ b x, (st.heap.set st.next (.cells B')).get b = some x → (b = st.next ∧ x = .cells B') ∨ (b < st.next ∧ st.heap.get b = some x) := by
    intro b x hb
    rw [T.get_set] at hb
    by_cases e : b = st.next
    · rw [if_pos e] at hb; exact .inl ⟨e, (Option.some.inj hb).symm⟩
    · rw [if_neg e] at hb; exact .inr ⟨h.dom b x hb, hb⟩
  have hfg : ∀ g, (st.fams.set f (F.on st.next)).get g = if g = f then some (F.on st.next) else st.fams.get g := fun g => T.get_set _ _ _ _
  have hSeen : ∀ d x, Seen ⟨st.heap.set st.next (.cells B'), st.fams.set f (F.on st.next), Nat.succ st.next⟩ d x → Seen st d x := by
    intro d x hs g hg
    obtain ⟨G, hG, hle⟩ := hs g hg
    have hG' : (st.fams.set f (F.on st.next)).get g = some G := hG
    rw [hfg] at hG'
    by_cases e : g = f
    · rw [if_pos e] at hG'; obtain rfl := Option.some.inj hG'
      rw [Fam.on_since] at hle
      exact ⟨F, e ▸ hF, hle⟩
    · rw [if_neg e] at hG'; exact ⟨G, hG', hle⟩
  -- what a block of cells that was seen reads as now
  have hobj : ∀ d x, st.heap.get d = some x → Seen st d x → ObjOk st.next φ (φ d) x w'.heap[(φ d).blk]? := by
    intro d x hd hs
    have h0 := h.obj d x hd hs
    by_cases e : (φ d).blk = (φ b).blk
    · rcases hplace with ⟨hi, hh, he, hfz, hcs, hsame, _⟩ | ⟨hi, hh, _⟩
      · have hw : w'.heap[(φ d).blk]? = some (.cells c' BL.e fz) := by rw [e, hh, Array.getElem?_setIfInBounds]; simp [hbd, he, hfz]
        have hx : ∃ Bx, x = .cells Bx ∧ Bx.k = .opn f := by
          rcases h.inj d b x _ hd hb e with e' | ⟨g, hg1, hg2⟩
          · subst e'; rw [hb] at hd; exact ⟨BL, (Option.some.inj hd).symm, hk⟩
          · simp [AObj.fam, hk] at hg2; subst hg2
            cases x with
            | cells Bx => cases hkx : Bx.k with
              | opn f' => simp [AObj.fam, hkx] at hg1; exact ⟨Bx, rfl, by rw [hkx, hg1]⟩
              | _ => simp [AObj.fam, hkx] at hg1
            | _ => simp [AObj.fam] at hg1
        obtain ⟨Bx, rfl, hkx⟩ := hx
        obtain ⟨cx, fx, hO, hz, hz1, hel, hko⟩ := h0
        rw [e, hc] at hO
        obtain ⟨rfl, hee, rfl⟩ := Obj.cells.inj (Option.some.inj hO)
        obtain ⟨F2, hF2, hle⟩ := hs f (by simp [AObj.fam, hkx])
        rw [hF] at hF2; obtain rfl := Option.some.inj hF2
        have hend := hBL.ends d Bx hd hkx hle (by rw [hl]; exact e)
        rw [hl] at hend
        refine ⟨c', fz, by rw [hw, hee], hz, hz1, fun i hi => ?_, by unfold KindOk at hko ⊢; rw [hkx] at hko ⊢; simp only at hko ⊢; rw [hcs]; exact hko⟩
        obtain ⟨l, hl1, hl2, hl3⟩ := hel i hi
        refine ⟨l, hl1, hl2, fun r a hr => ?_⟩
        have hr' : r < Bx.z := by rw [← hl2]; exact (List.getElem?_eq_some_iff.1 hr).1
        have hlt : i * Bx.z + r < Bx.hi * Bx.z := by
          have : (i + 1) * Bx.z ≤ Bx.hi * Bx.z := Nat.mul_le_mul_right _ hi
          rw [Nat.add_mul, Nat.one_mul] at this; omega
        rw [hsame _ (by omega)]
        exact hl3 r a hr
      · have : w'.heap[(φ d).blk]? = w.heap[(φ d).blk]? := by rw [hh, Array.getElem?_push, if_neg (by have := h.bd d x hd; omega)]
        rw [this]; exact h0
    · rw [hold _ (h.bd d x hd) e]; exact h0
  refine ⟨⟨agr_upd _ _ _, Nat.le_succ _, ⟨h.base.upd im, Nat.le_trans h.b0 hsz, ?_, ?_, ?_, ?_, ?_, ?_, ?_, ?_⟩, ?_, hsz, h1, h2, h3, ?_⟩, fun b hb hz => by rw [upd_ne _ _ (by omega)]; exact hz⟩
  · intro d x g hd hx
    show ∃ G, (st.fams.set f (F.on st.next)).get g = some G
    rw [hfg]
    by_cases e : g = f
    · rw [if_pos e]; exact ⟨_, rfl⟩
    · rw [if_neg e]
      rcases hget d x hd with ⟨rfl, rfl⟩ | ⟨hlt, hd'⟩
      · simp [AObj.fam, hk'] at hx; exact absurd hx.symm e
      · exact h.famk d x g hd' hx
  · intro d x hd
    rcases hget d x hd with ⟨rfl, _⟩ | ⟨hlt, _⟩
    · exact Nat.lt_succ_self _
    · exact Nat.lt_succ_of_lt hlt
  · intro d x hd
    rcases hget d x hd with ⟨rfl, _⟩ | ⟨hlt, hd'⟩
    · rw [upd_same]; exact hnlt
    · rw [upd_ne _ _ (by omega)]; exact Nat.lt_of_lt_of_le (h.bd d x hd') hsz
  · intro d x hd hw
    rcases hget d x hd with ⟨rfl, _⟩ | ⟨hlt, hd'⟩
    · rw [upd_same]
      rcases hplace with ⟨hi, _⟩ | ⟨hi, _⟩
      · rw [hi]; exact h.low b _ hb (by simp [AObj.wr, hk])
      · rw [hi]; exact h.b0
    · rw [upd_ne _ _ (by omega)]; exact h.low d x hd' hw
  · intro d d' x x' hd hd' he
    have key : ∀ e y, st.heap.get e = some y → (φ e).blk = im.blk → y.fam = some f := by
      intro e y he hq
      rcases hplace with ⟨hi, _⟩ | ⟨hi, _⟩
      · rcases h.inj e b y _ he hb (hq.trans hi) with e' | ⟨g, hg1, hg2⟩
        · subst e'; rw [hb] at he; obtain rfl := Option.some.inj he; simp [AObj.fam, hk]
        · simp [AObj.fam, hk] at hg2; subst hg2; exact hg1
      · have := h.bd e y he; omega
    rcases hget d x hd with ⟨rfl, rfl⟩ | ⟨hlt, hd1⟩ <;> rcases hget d' x' hd' with ⟨rfl, rfl⟩ | ⟨hlt', hd1'⟩
    · exact .inl rfl
    · rw [upd_same, upd_ne _ _ (by omega)] at he
      exact .inr ⟨f, by simp [AObj.fam, hk'], key d' x' hd1' he.symm⟩
    · rw [upd_same, upd_ne _ _ (by omega)] at he
      exact .inr ⟨f, key d x hd1 he, by simp [AObj.fam, hk']⟩
    · rw [upd_ne _ _ (by omega), upd_ne _ _ (by omega)] at he; exact h.inj d d' x x' hd1 hd1' he
  · intro d x hd hs
    rcases hget d x hd with ⟨rfl, rfl⟩ | ⟨hlt, hd'⟩
    · rw [upd_same, hnew]; exact ho
    · rw [upd_ne _ _ (by omega)]
      exact (hobj d x hd' (hSeen d x hs)).mono (Nat.le_succ _) (agr_upd _ _ _)
  · intro g G hG
    have hG' : (st.fams.set f (F.on st.next)).get g = some G := hG
    rw [hfg] at hG'
    by_cases e : g = f
    · subst e
      rw [if_pos rfl] at hG'; obtain rfl := Option.some.inj hG'
      refine ⟨Nat.lt_succ_of_lt hflt, B', ⟨?_, hk', ?_, ?_, ?_, ?_⟩⟩
      · rw [Fam.on_live]; exact T.get_set_same _ _ _
      · rw [Fam.on_live, Fam.on_since]; have := hBL.since; have := h.dom _ _ hBL.live; omega
      · intro d D hd hkd
        rw [Fam.on_live]
        rcases hget d _ hd with ⟨rfl, _⟩ | ⟨hlt, _⟩
        · exact Nat.le_refl _
        · exact Nat.le_of_lt hlt
      · intro d D hd hkd hle he
        rw [Fam.on_live] at he ⊢
        rw [Fam.on_since] at hle
        rw [upd_same] at he ⊢
        rcases hget d _ hd with ⟨rfl, e2⟩ | ⟨hlt, hd'⟩
        · obtain rfl := AObj.cells.inj e2; rw [upd_same]; exact Nat.le_refl _
        · rw [upd_ne _ _ (by omega)] at he ⊢
          rcases hplace with ⟨hi, _, _, _, _, _, hend⟩ | ⟨hi, _⟩
          · have := hBL.ends d D hd' hkd hle (by rw [hl, he, hi])
            rw [hl] at this; omega
          · have := h.bd d _ hd'; omega
      · intro c2 e2 fz2 hc2
        rw [Fam.on_live, upd_same, hnew] at hc2
        obtain ⟨rfl, rfl, rfl⟩ := Obj.cells.inj (Option.some.inj hc2)
        rw [Fam.on_mark, Fam.on_live, upd_same]
        rcases hplace with ⟨hi, _, _, hfz, hcs, _, hend⟩ | ⟨hi, _, hfz⟩
        · have := hBL.froz c BL.e fz (by rw [hl]; exact hc)
          rw [hl] at this
          rw [hfz, hcs]
          exact ⟨this.1, fun hm => Nat.le_trans (this.2.1 hm) hend, this.2.2⟩
        · rw [hfz]; exact FzOk.fresh _ _ _
    · rw [if_neg e] at hG'
      obtain ⟨hglt, BG, hBG⟩ := h.fam g G hG'
      have hgl : G.live < st.next := h.dom _ _ hBG.live
      refine ⟨Nat.lt_succ_of_lt hglt, BG, ⟨?_, hBG.kind, hBG.since, ?_, ?_, ?_⟩⟩
      · exact (T.get_set_ne _ _ (by omega)).trans hBG.live
      · intro d D hd hkd
        rcases hget d _ hd with ⟨rfl, e2⟩ | ⟨hlt, hd'⟩
        · obtain rfl := AObj.cells.inj e2; rw [hk'] at hkd; exact absurd (Kind.opn.inj hkd).symm e
        · exact hBG.last d D hd' hkd
      · intro d D hd hkd hle he
        rcases hget d _ hd with ⟨rfl, e2⟩ | ⟨hlt, hd'⟩
        · obtain rfl := AObj.cells.inj e2; rw [hk'] at hkd; exact absurd (Kind.opn.inj hkd).symm e
        · rw [upd_ne _ _ (by omega), upd_ne _ _ (by omega)] at *; exact hBG.ends d D hd' hkd hle he
      · intro c2 e2 fz2 hc2
        rw [upd_ne _ _ (by omega)] at *
        have hne : (φ G.live).blk ≠ (φ b).blk := by
          intro he
          rcases h.inj G.live b _ _ hBG.live hb he with e' | ⟨g', hg1, hg2⟩
          · have := hBG.live
            rw [e', hb] at this; obtain rfl := AObj.cells.inj (Option.some.inj this)
            rw [hBG.kind] at hk; exact e (Kind.opn.inj hk)
          · simp [AObj.fam, hBG.kind] at hg1; simp [AObj.fam, hk] at hg2; exact e (hg1.trans hg2.symm)
        exact hBG.froz c2 e2 fz2 (by rw [← hold _ (h.bd _ _ hBG.live) hne]; exact hc2)
  · intro d x hd
    rcases hget d x hd with ⟨rfl, _⟩ | ⟨hlt, hd'⟩
    · rw [upd_same]
      obtain ⟨_, _, _, hz, hz1, _⟩ := ho
      omega
    · rw [upd_ne _ _ (by omega)]; exact h.on d x hd'
  · intro r hr hno
    exact hold r hr (fun he => hno b _ hb (by simp [AObj.wr, hk]) he.symm)
  · intro d x hd
    rcases hget d x hd with ⟨rfl, rfl⟩ | ⟨hlt, hd'⟩
    · refine ⟨fun _ => .inr (Old.not (Nat.le_refl _)), fun _ => ?_, fun hlt => absurd hlt.1 (Nat.lt_irrefl _)⟩
      rw [upd_same]
      rcases hplace with ⟨hi, _⟩ | ⟨hi, _⟩
      · exact .inr ⟨b, _, hb, by simp [AObj.wr, hk], hi.symm⟩
      · exact .inl (by rw [hi]; exact Nat.le_refl _)
    · exact ⟨fun hw => .inl ⟨x, hd', hw⟩, fun hge => absurd (h.old d x hd') hge, fun _ => ⟨x, hd'⟩⟩
end Go.AE

namespace Go.AE
open Go Go.RowKit

theorem freeze_eq {w : World} {g o n : Nat} {c : Array Value} {e : TypeId} {fz : Nat × Nat} (h : w.heap[g]? = some (.cells c e fz)) (hn : n ≠ 0) :
    w.freeze ⟨g, o, none⟩ n = setBlk w g (.cells c e (if fz.1 == fz.2 then (o, o + n) else (min fz.1 o, max fz.2 (o + n)))) := by
  obtain ⟨hl, he⟩ := Array.getElem?_eq_some_iff.1 h
  obtain ⟨lo, hi⟩ := fz
  have : (w.freeze ⟨g, o, none⟩ n).heap = w.heap.setIfInBounds g (.cells c e (if lo == hi then (o, o + n) else (min lo o, max hi (o + n)))) := by
    apply Array.ext_getElem?
    intro i
    simp only [World.freeze, if_neg hn, Array.getElem?_modify, Array.getElem?_setIfInBounds]
    by_cases e : g = i
    · subst e; rw [if_pos rfl, if_pos rfl, h]; simp [hl]
    · rw [if_neg e, if_neg e]
  cases w
  simp only [World.freeze, if_neg hn, setBlk] at *
  rw [this]

/-- Some bytes of a grown row are shared with a string. -/
theorem Post.mark {B0 : Nat} {φ : Emb} {st : St} {w w' : World} (h : Sim B0 φ st w) {b f : Nat} {F : Fam} {B : Blk} {c : Array Value} {fz fz' : Nat × Nat}
    (hb : st.heap.get b = some (.cells B)) (hk : B.k = .opn f) (hF : st.fams.get f = some F) (hs : F.since ≤ b) (hmk : F.mark < 2)
    (hc : w.heap[(φ b).blk]? = some (.cells c B.e fz)) (hh : w'.heap = w.heap.setIfInBounds (φ b).blk (.cells c B.e fz'))
    (h1 : w'.os = w.os) (h2 : w'.tape = w.tape) (h3 : w'.output = w.output)
    (hz : ∀ en, (φ b).add + B.hi * B.z ≤ en → FzOk F.mark c.size fz en → fz'.2 ≤ en) :
    Post B0 φ st w φ (st.setFam f F.marked) w' := by
  have hbd := h.bd b _ hb
  obtain ⟨hflt, BL, hBL⟩ := h.fam f F hF
  have hget' : ∀ r, w'.heap[r]? = if r = (φ b).blk then some (.cells c B.e fz') else w.heap[r]? := by
    intro r
    rw [hh, Array.getElem?_setIfInBounds]
    by_cases e : (φ b).blk = r
    · subst e; simp [hbd]
    · rw [if_neg e, if_neg (fun h => e h.symm)]
  have hsz : w'.heap.size = w.heap.size := by rw [hh]; simp
  obtain ⟨hp, fams, nx⟩ := st
  have hfg : ∀ g, (fams.set f F.marked).get g = if g = f then some F.marked else fams.get g := fun g => T.get_set _ _ _ _
  simp only [St.setFam] at *
  refine ⟨⟨Agr.refl _ _, Nat.le_refl _, ⟨h.base, by rw [hsz]; exact h.b0, ?_, h.dom, by rw [hsz]; exact h.bd, h.low, h.inj, ?_, ?_, h.on⟩, ?_, by rw [hsz]; exact Nat.le_refl _, h1, h2, h3, ?_⟩, fun _ _ h => h⟩
  · intro d x g hd hx
    show ∃ G, (fams.set f F.marked).get g = some G
    rw [hfg]
    by_cases e : g = f
    · rw [if_pos e]; exact ⟨_, rfl⟩
    · rw [if_neg e]; exact h.famk d x g hd hx
  · intro d x hd hsn
    have hsn' : Seen ⟨hp, fams, nx⟩ d x := by
      intro g hg
      obtain ⟨G, hG, hle⟩ := hsn g hg
      have hG' : (fams.set f F.marked).get g = some G := hG
      rw [hfg] at hG'
      by_cases e : g = f
      · rw [if_pos e] at hG'; obtain rfl := Option.some.inj hG'
        rw [Fam.marked_since] at hle
        exact ⟨F, e ▸ hF, hle⟩
      · rw [if_neg e] at hG'; exact ⟨G, hG', hle⟩
    have h0 := h.obj d x hd hsn'
    rw [hget']
    by_cases e : (φ d).blk = (φ b).blk
    · rw [if_pos e]
      have hx : ∃ Bx, x = .cells Bx ∧ Bx.k = .opn f := by
        rcases h.inj d b x _ hd hb e with e' | ⟨g, hg1, hg2⟩
        · subst e'; have hb' := hb; rw [hd] at hb'; exact ⟨B, Option.some.inj hb', hk⟩
        · simp [AObj.fam, hk] at hg2; subst hg2
          cases x with
          | cells Bx => cases hkx : Bx.k with
            | opn f' => simp [AObj.fam, hkx] at hg1; exact ⟨Bx, rfl, by rw [hkx, hg1]⟩
            | _ => simp [AObj.fam, hkx] at hg1
          | _ => simp [AObj.fam] at hg1
      obtain ⟨Bx, rfl, hkx⟩ := hx
      obtain ⟨cx, fx, hO, hz', hz1, hel, hko⟩ := h0
      rw [e, hc] at hO
      obtain ⟨rfl, hee, rfl⟩ := Obj.cells.inj (Option.some.inj hO)
      exact ⟨c, fz', by rw [hee], hz', hz1, hel, by unfold KindOk at hko ⊢; rw [hkx] at hko ⊢; exact hko⟩
    · rw [if_neg e]; exact h0
  · intro g G hG
    have hG' : (fams.set f F.marked).get g = some G := hG
    rw [hfg] at hG'
    by_cases e : g = f
    · subst e
      rw [if_pos rfl] at hG'; obtain rfl := Option.some.inj hG'
      refine ⟨hflt, BL, ⟨by rw [Fam.marked_live]; exact hBL.live, hBL.kind, by rw [Fam.marked_live, Fam.marked_since]; exact hBL.since, by rw [Fam.marked_live]; exact hBL.last,
        by rw [Fam.marked_live, Fam.marked_since]; exact hBL.ends, ?_⟩⟩
      intro c2 e2 fz2 hc2
      rw [Fam.marked_live] at hc2 ⊢
      rw [Fam.marked_mark]
      refine ⟨fun hm => absurd hm (by decide), fun _ => ?_, fun hm => absurd rfl hm⟩
      rw [hget'] at hc2
      by_cases he : (φ F.live).blk = (φ b).blk
      · rw [if_pos he] at hc2
        obtain ⟨rfl, rfl, rfl⟩ := Obj.cells.inj (Option.some.inj hc2)
        exact hz _ (hBL.ends b B hb hk hs he.symm) (hBL.froz c B.e fz (by rw [he]; exact hc))
      · rw [if_neg he] at hc2
        -- the elder mark stands there: no block of it has been written since
        have := hBL.froz c2 e2 fz2 hc2
        by_cases hm : F.mark = 0
        · rw [this.1 hm]; exact Nat.zero_le _
        · by_cases hm1 : F.mark = 1
          · exact this.2.1 hm1
          · omega
    · rw [if_neg e] at hG'
      obtain ⟨hglt, BG, hBG⟩ := h.fam g G hG'
      refine ⟨hglt, BG, ⟨hBG.live, hBG.kind, hBG.since, hBG.last, hBG.ends, ?_⟩⟩
      intro c2 e2 fz2 hc2
      have hne : (φ G.live).blk ≠ (φ b).blk := by
        intro he
        rcases h.inj G.live b _ _ hBG.live hb he with e' | ⟨g', hg1, hg2⟩
        · have := hBG.live
          rw [e', hb] at this; obtain rfl := AObj.cells.inj (Option.some.inj this)
          rw [hBG.kind] at hk; exact e (Kind.opn.inj hk)
        · simp [AObj.fam, hBG.kind] at hg1; simp [AObj.fam, hk] at hg2; exact e (hg1.trans hg2.symm)
      rw [hget', if_neg hne] at hc2
      exact hBG.froz c2 e2 fz2 hc2
  · intro r hr hno
    rw [hget', if_neg (fun he => hno b _ hb (by simp [AObj.wr, hk]) he.symm)]
  · intro d x hd
    exact ⟨fun hw => .inl ⟨x, hd, hw⟩, fun hge => absurd (h.old d x hd) hge, fun _ => ⟨x, hd⟩⟩
end Go.AE
