/- The abstract evaluator: regions that draw their order, the second half; it is sound; calls whose answers bear no address. -/
import Derived.Test.YtjnahfpnehmehaaGreatDoorAeE
import Derived.LoopNIn
namespace Go.AE
open Go Go.RowKit

variable {C : Ctx} {ex : Exec} {ops : List Oper} {b : List Nat} {fr0 : Fr} {st0 : St} {Ds : Nat → Draw}

open Classical in
/-- The blocks that stand beside: made, and not laid yet. -/
noncomputable def fL (al : List (Nat × Nat × AObj)) (laid : Nat) (L : Nat → Prop) (j : Nat) : Option AObj := if L j ∧ laid.testBit j = false then look al j else none
theorem fL_some {al : List (Nat × Nat × AObj)} {laid : Nat} {L : Nat → Prop} {j : Nat} {o : AObj} : fL al laid L j = some o ↔ L j ∧ laid.testBit j = false ∧ look al j = some o := by
  unfold fL
  by_cases h : L j ∧ laid.testBit j = false
  · rw [if_pos h]; exact ⟨fun k => ⟨h.1, h.2, k⟩, fun k => k.2.2⟩
  · rw [if_neg h]; exact ⟨fun k => (by cases k), fun k => absurd ⟨k.1, k.2.1⟩ h⟩

structure Inv (C : Ctx) (ops : List Oper) (b : List Nat) (fr0 : Fr) (st0 : St) (Ds : Nat → Draw) (B0 : Nat) (φ0 : Emb) (w0 : World) (a0 : Act) (L : Nat → Prop) (τ : Nat) (φ : Emb) (w : World) (a : Act) : Prop where
  sub : ∀ i, L i → i < ops.length
  cl : ∀ i k, L i → bitAt b i k = true → L k
  tle : τ ≤ ops.length
  tau : ∀ e, Eff C ops Ds e → (L e ↔ e < τ)
  post : PostW B0 φ0 st0 w0 φ (layN st0.next (fL (Ds ops.length).al (Ds τ).laid L) ops.length (Ds τ).st) w
  off0 : ∀ x, x < st0.next → (φ0 x).z = 0 → (φ x).z = 0
  res : ∀ j, j < ops.length → (¬ L j ∨ look (Ds ops.length).al j = none) → (φ (st0.next + j)).z = 0
  absent : ∀ j, j < ops.length → (Ds τ).laid.testBit j = false → (Ds τ).st.heap.get (st0.next + j) = none
  nx : st0.next + ops.length ≤ (Ds τ).st.next
  size : a.tmps.size = fr0.nt
  ds : a.defers = a0.defers
  frame : ∀ t, ∃ x, IsLast (dstAt ops) (fun j t => (Ds (j + 1)).fr.get t) fr0.get L t x ∧ Rep (Ds τ).st.next φ x (a.tmps.getD t undef)

variable {B0 : Nat} {φ0 φ : Emb} {w0 w : World} {a0 a : Act} {L : Nat → Prop} {τ : Nat}

theorem layN_none (base : Nat) (f : Nat → Option AObj) (S : St) : ∀ n, (∀ j, j < n → f j = none) → layN base f n S = S
  | 0, _ => rfl
  | n + 1, h => by rw [layN, h n (by omega)]; exact layN_none base f S n fun j hj => h j (by omega)

theorem Post.drewP {st : St} (h : Sim B0 φ st w) : Post B0 φ st w φ st w.drew :=
  ⟨⟨Agr.refl _ _, Nat.le_refl _, h.drew, fun _ _ _ => rfl, Nat.le_refl _, rfl, rfl, rfl, (PostW.refl h).img⟩, fun _ _ h => h⟩

theorem Inv.init (ht : TR C ex ops b fr0 st0 Ds) (hs : Sim B0 φ0 st0 w0) (hfr : FrR st0.next φ0 fr0 a0) :
    Inv C ops b fr0 st0 Ds B0 φ0 w0 a0 (fun _ => False) 0 (cutOff φ0 st0.next) w0.drew a0 := by
  have hp := (Post.drewP hs).trans (reserve_ok hs.drew ops.length)
  have hst : (Ds 0).st = resv ops.length st0 := by rw [ht.start]
  refine ⟨fun _ h => h.elim, fun _ _ h => h.elim, Nat.zero_le _, fun e _ => ⟨fun h => h.elim, fun h => absurd h (by omega)⟩, ?_, fun x hx hz => by rw [cutOff_lt hx]; exact hz, fun j _ _ => cutOff_ge (by omega), ?_, ?_, hfr.size, rfl, ?_⟩
  · rw [layN_none _ _ _ _ (fun j _ => by
      cases h : fL (Ds ops.length).al (Ds 0).laid (fun _ => False) j with
      | none => rfl
      | some o => exact (fL_some.1 h).1.elim), hst]
    exact hp.toPostW
  · intro j hj _
    rw [hst, resv_heap]
    cases h : st0.heap.get (st0.next + j) with
    | none => rfl
    | some o => have := hs.dom _ _ h; omega
  · rw [hst, resv_next]; exact Nat.le_refl _
  · intro t
    refine ⟨fr0.get t, .inr ⟨fun k h => h.elim, rfl⟩, ?_⟩
    rw [hst]
    exact (hp.frR hfr).val t

/-- What an operation names is as in the textual run. -/
theorem Inv.named (hi : Inv C ops b fr0 st0 Ds B0 φ0 w0 a0 L τ φ w a) (ht : TR C ex ops b fr0 st0 Ds) (hok : tmpsOk ops b ops 0 = true) {i : Nat} {o : Oper} (ho : ops[i]? = some o) (hn : ¬ L i) (hb : ∀ k, bitAt b i k = true → L k)
    {t : Tmp} (hm : t ∈ named ops o) : Rep (Ds τ).st.next φ ((Ds i).fr.get t) (a.tmps.getD t undef) := by
  obtain ⟨x, hx, hr⟩ := hi.frame t
  have hlt := (List.getElem?_eq_some_iff.1 ho).1
  have h2 := (ht.frame i (by omega)).2.2 t
  have : IsLast (dstAt ops) (fun j t => (Ds (j + 1)).fr.get t) fr0.get (· < i) t x := by
    refine hx.congr fun j hj => ?_
    unfold dstAt at hj
    obtain ⟨o', hoj, hdj⟩ := Option.bind_eq_some_iff.1 hj
    have hord := tmpsOk_spec hok j o' t hoj hdj i o ho hm
    rw [Nat.zero_add] at hord
    constructor
    · intro hL
      by_cases e : j < i
      · exact e
      · have hne : j ≠ i := fun e => hn (e ▸ hL)
        exact absurd (hi.cl j i hL (ordered_gt hord (by omega))) hn
    · intro hji
      exact hb j (ordered_lt hord hji)
  rw [← this.uniq h2]
  exact hr

/-- The act, but for what the operation looks at nothing. -/
def mact (ts : List Tmp) (a : Act) : Act := { tmps := (Array.range a.tmps.size).map fun t => if t ∈ ts then a.tmps.getD t undef else undef, defers := a.defers }
theorem mact_get (ts : List Tmp) (a : Act) (t : Tmp) : (mact ts a).tmps.getD t undef = if t ∈ ts then a.tmps.getD t undef else undef := by
  unfold mact
  rw [Array.getD_eq_getD_getElem?]
  simp only [Array.getElem?_map]
  by_cases h : t < a.tmps.size
  · rw [Array.getElem?_range, if_pos h]; rfl
  · rw [Array.getElem?_range, if_neg h]
    have : a.tmps.getD t undef = undef := by rw [Array.getD_eq_getD_getElem?, Array.getElem?_eq_none (Nat.le_of_not_lt h)]; rfl
    rw [this]
    split <;> rfl
theorem mact_eval (a : Act) (o : Oper) : ∀ x ∈ o.op.operands, a.eval x = (mact (tmpsIn o.op.operands.toList) a).eval x := by
  intro x hx
  cases x with
  | tmp t =>
    have hm : t ∈ tmpsIn o.op.operands.toList := tmpsIn_mem (by simpa using hx)
    have := mact_get (tmpsIn o.op.operands.toList) a t
    rw [if_pos hm] at this
    simp only [Act.eval]
    exact this.symm
  | _ => rfl
theorem Inv.masked (hi : Inv C ops b fr0 st0 Ds B0 φ0 w0 a0 L τ φ w a) (ht : TR C ex ops b fr0 st0 Ds) (hok : tmpsOk ops b ops 0 = true) {i : Nat} {o : Oper} (ho : ops[i]? = some o) (hn : ¬ L i) (hb : ∀ k, bitAt b i k = true → L k) :
    FrR (Ds τ).st.next φ (mkd o (Ds i).fr) (mact (tmpsIn o.op.operands.toList) a) := by
  have hlt := (List.getElem?_eq_some_iff.1 ho).1
  refine ⟨?_, fun t => ?_⟩
  · show ((Array.range a.tmps.size).map _).size = (Ds i).fr.nt
    rw [(ht.frame i (by omega)).1]
    simpa using hi.size
  · rw [mact_get]
    show Rep _ _ ((maskFr (tmpsIn o.op.operands.toList) (Ds i).fr).get t) _
    rw [maskFr_get]
    by_cases e : t ∈ tmpsIn o.op.operands.toList
    · rw [if_pos e, if_pos e]
      exact hi.named ht hok ho hn hb (by unfold AE.named; simp [e])
    · rw [if_neg e, if_neg e]
      exact Rep.undef
end Go.AE

namespace Go.AE
open Go Go.RowKit

variable {C : Ctx} {ex : Exec} {ops : List Oper} {b : List Nat} {fr0 : Fr} {st0 : St} {Ds : Nat → Draw} {B0 : Nat} {φ0 φ : Emb} {w0 w : World} {a0 a : Act} {L : Nat → Prop} {τ : Nat}

theorem layN_congr (base : Nat) {f g : Nat → Option AObj} (S : St) : ∀ n, (∀ j, j < n → f j = g j) → layN base f n S = layN base g n S
  | 0, _ => rfl
  | n + 1, h => by rw [layN, layN, h n (by omega), layN_congr base S n fun j hj => h j (by omega)]
theorem TR.look_none (ht : TR C ex ops b fr0 st0 Ds) {i : Nat} {o : Oper} (ho : ops[i]? = some o) (hn : ¬ (wants ops (Ds i).fr o = true ∧ opKind C.P o.op = .alloc)) : look (Ds ops.length).al i = none := by
  have hlt := (List.getElem?_eq_some_iff.1 ho).1
  have h1 : look (Ds (i + 1)).al i = none := by
    obtain ⟨v, _, hs⟩ := ht.step i o ho
    have h0 : look (Ds i).al i = none := by
      cases h : look (Ds i).al i with
      | none => rfl
      | some x => have := ((ht.al i (by omega)).1 _ ((ht.al i (by omega)).2 _ _ h)).1; simp at this
    rcases hs with ⟨_, _, hD⟩ | ⟨_, _, _, hD⟩ | ⟨_, _, _, hD⟩ | ⟨hw, hk, _⟩ | ⟨_, _, _, S, _, hD⟩
    · rw [hD]; exact h0
    · rw [hD]; exact h0
    · rw [hD]; exact h0
    · exact absurd ⟨hw, hk⟩ hn
    · rw [hD]; exact h0
  have := ht.look_up (j := i) (i := i + 1) (by omega) (ops.length - (i + 1)) (by omega)
  rw [show i + 1 + (ops.length - (i + 1)) = ops.length from by omega] at this
  rw [this, h1]

theorem put_lt {fr fr' : Fr} {d : Tmp} {v : AV} (h : fr.put (some d) v = some fr') : d < fr.nt := by
  obtain ⟨nt, tr, rd⟩ := fr
  simp only [Fr.put, cnd_eq, blt_true] at h
  exact h.1
/-- On with the invariant. -/
theorem Inv.next (hi : Inv C ops b fr0 st0 Ds B0 φ0 w0 a0 L τ φ w a) (ht : TR C ex ops b fr0 st0 Ds) (hok : tmpsOk ops b ops 0 = true) {i : Nat} {o : Oper} (ho : ops[i]? = some o) (hn : ¬ L i) (hb : ∀ k, bitAt b i k = true → L k)
    {τ' : Nat} {φ' : Emb} {w' : World} {v : AV} {u : Value} (hput : (Ds i).fr.put o.dst v = some (Ds (i + 1)).fr)
    (hp : PostW B0 φ (layN st0.next (fL (Ds ops.length).al (Ds τ).laid L) ops.length (Ds τ).st) w φ' (layN st0.next (fL (Ds ops.length).al (Ds τ').laid (fun k => L k ∨ k = i)) ops.length (Ds τ').st) w')
    (hle : τ' ≤ ops.length) (htau : ∀ e, Eff C ops Ds e → ((L e ∨ e = i) ↔ e < τ')) (hoff : ∀ x, x < st0.next → (φ x).z = 0 → (φ' x).z = 0)
    (hres : ∀ j, j < ops.length → (¬ (L j ∨ j = i) ∨ look (Ds ops.length).al j = none) → (φ' (st0.next + j)).z = 0)
    (habs : ∀ j, j < ops.length → (Ds τ').laid.testBit j = false → (Ds τ').st.heap.get (st0.next + j) = none) (hnx : st0.next + ops.length ≤ (Ds τ').st.next)
    (hv : Rep (Ds τ').st.next φ' v u) : Inv C ops b fr0 st0 Ds B0 φ0 w0 a0 (fun k => L k ∨ k = i) τ' φ' w' (a.put o.dst u) := by
  have hlt := (List.getElem?_eq_some_iff.1 ho).1
  have hdef : (a.put o.dst u).defers = a.defers := by cases o.dst <;> rfl
  obtain ⟨p1, p2, p3⟩ := put_get hput
  refine ⟨?_, ?_, hle, htau, hi.post.trans hp, fun x hx hz => hoff x hx (hi.off0 x hx hz), hres, habs, hnx, ?_, by rw [hdef]; exact hi.ds, ?_⟩
  · rintro k (hk | rfl)
    · exact hi.sub k hk
    · exact hlt
  · rintro k m (hk | rfl) hbit
    · exact .inl (hi.cl k m hk hbit)
    · exact .inl (hb m hbit)
  · rw [← hi.size]
    cases o.dst <;> simp [Act.put]
  · intro t
    have hdst : dstAt ops i = o.dst := by unfold dstAt; rw [ho]; rfl
    by_cases e : o.dst = some t
    · refine ⟨(Ds (i + 1)).fr.get t, .inl ⟨i, .inr rfl, hdst.trans e, rfl, ?_⟩, ?_⟩
      · rintro k (hk | rfl) hd
        · by_cases hki : k ≤ i
          · exact hki
          · unfold dstAt at hd
            obtain ⟨o', hoj, hdj⟩ := Option.bind_eq_some_iff.1 hd
            have hm : t ∈ AE.named ops o := by unfold AE.named; rw [e]; simp [dstTmp]
            have hord := tmpsOk_spec hok k o' t hoj hdj i o ho hm
            rw [Nat.zero_add] at hord
            exact absurd (hi.cl k i hk (ordered_gt hord (by omega))) hn
        · exact Nat.le_refl _
      · have h1 := p3 t
        rw [if_pos e] at h1
        rw [h1, e]
        have hsz : t < a.tmps.size := by
          have hnt := (ht.frame i (by omega)).1
          rw [hi.size, ← hnt]
          rw [e] at hput
          exact put_lt hput
        have : (a.put (some t) u).tmps.getD t undef = u := by
          rw [Array.getD_eq_getD_getElem?]
          simp [Act.put, hsz]
        rw [this]
        exact hv
    · obtain ⟨x, hx, hr⟩ := hi.frame t
      refine ⟨x, hx.congr fun j hj => ⟨fun k => .inl k, fun k => ?_⟩, ?_⟩
      · rcases k with k | rfl
        · exact k
        · exact absurd (hdst ▸ hj) e
      · have hkeep : (a.put o.dst u).tmps.getD t undef = a.tmps.getD t undef := by
          cases hd : o.dst with
          | none => rfl
          | some d =>
            have hne : d ≠ t := fun h => e (by rw [hd, h])
            rw [Array.getD_eq_getD_getElem?, Array.getD_eq_getD_getElem?]
            simp [Act.put, Array.getElem?_setIfInBounds_ne hne]
        rw [hkeep]
        have hn1 := layN_next st0.next (fL (Ds ops.length).al (Ds τ).laid L) (Ds τ).st ops.length
        have hn2 := layN_next st0.next (fL (Ds ops.length).al (Ds τ').laid (fun k => L k ∨ k = i)) (Ds τ').st ops.length
        have hag := hp.agr
        have hnn := hp.nx
        rw [hn1] at hag hnn
        rw [hn2] at hnn
        exact hr.mono hnn hag
end Go.AE

namespace Go.AE
open Go Go.RowKit

variable {C : Ctx} {ex : Exec} {ops : List Oper} {b : List Nat} {fr0 : Fr} {st0 : St} {Ds : Nat → Draw} {B0 : Nat} {φ0 φ : Emb} {w0 w : World} {a0 a : Act} {L : Nat → Prop} {τ : Nat}

theorem wants_at {n : Nat} {fr : Fr} {a : Act} {A : Array Oper} (o : Oper) (hfr : ∀ t ∈ guardTmp A.toList o.guard, Rep n φ (fr.get t) (a.tmps.getD t undef)) : wants A.toList fr o = Region.wanted o (yielded A a.tmps) := by
  unfold wants Region.wanted
  cases hg0 : o.guard with
  | none => rfl
  | some g =>
    obtain ⟨j, want⟩ := g
    rw [hg0] at hfr
    simp only [guardTmp] at hfr
    simp only [wantG, nth_eq, yielded]
    rw [bnd_eq_bind]
    rw [nth_eq, bnd_eq_bind] at hfr
    have e1 : A.toList[j]? = A[j]? := by simp
    rw [e1] at hfr ⊢
    cases hd : (A[j]?).bind (·.dst) with
    | none => simp
    | some d =>
      rw [hd] at hfr
      have hv := (hfr d (by simp)).now
      simp only [Option.bind_some]
      cases ht : a.tmps[d]? with
      | none =>
        have hu : a.tmps.getD d undef = undef := by rw [Array.getD_eq_getD_getElem?, ht]; rfl
        rw [hu] at hv
        have : fr.get d = .tup [] := by
          cases hg : fr.get d <;> rw [hg] at hv <;> simp only [conc, undef, reduceCtorEq, Value.tuple.injEq] at hv
          rename_i c
          cases c with
          | nil => rfl
          | cons x y => simp [concL] at hv
        rw [this]
        simp
      | some x =>
        have hu : a.tmps.getD d undef = x := by rw [Array.getD_eq_getD_getElem?, ht]; rfl
        rw [hu] at hv
        cases hg : fr.get d <;> rw [hg] at hv <;> simp only [conc] at hv <;> subst hv <;> simp

theorem fL_add {al : List (Nat × Nat × AObj)} {laid i : Nat} (h : look al i = none) (j : Nat) : fL al laid L j = fL al laid (fun k => L k ∨ k = i) j := by
  cases h1 : fL al laid (fun k => L k ∨ k = i) j with
  | none =>
    cases h2 : fL al laid L j with
    | none => rfl
    | some o =>
      obtain ⟨k1, k2, k3⟩ := fL_some.1 h2
      have := fL_some (L := fun k => L k ∨ k = i) |>.2 ⟨.inl k1, k2, k3⟩
      rw [h1] at this; cases this
  | some o =>
    obtain ⟨k1, k2, k3⟩ := fL_some.1 h1
    rcases k1 with k1 | rfl
    · exact fL_some.2 ⟨k1, k2, k3⟩
    · rw [h] at k3; cases k3
theorem Inv.beside (hi : Inv C ops b fr0 st0 Ds B0 φ0 w0 a0 L τ φ w a) (ht : TR C ex ops b fr0 st0 Ds) : ∀ j o, j < ops.length → fL (Ds ops.length).al (Ds τ).laid L j = some o → o.fam = none ∧ (Ds τ).st.heap.get (st0.next + j) = none := by
  intro j o hj h
  obtain ⟨k1, k2, k3⟩ := fL_some.1 h
  obtain ⟨a1, a2⟩ := ht.al ops.length (Nat.le_refl _)
  exact ⟨(a1 _ (a2 _ _ k3)).2.2.1, hi.absent j hj k2⟩
theorem Inv.less (hi : Inv C ops b fr0 st0 Ds B0 φ0 w0 a0 L τ φ w a) (ht : TR C ex ops b fr0 st0 Ds) : Less (Ds τ).st (layN st0.next (fL (Ds ops.length).al (Ds τ).laid L) ops.length (Ds τ).st) := by
  refine ⟨(layN_next _ _ _ _).symm, (layN_fams _ _ _ _).symm, fun c o hc => ?_, fun c o f hc hf => ?_⟩
  · rw [layN_off]
    · exact hc
    · rintro j hj rfl
      cases h : fL (Ds ops.length).al (Ds τ).laid L j with
      | none => rfl
      | some x => rw [(hi.beside ht j x hj h).2] at hc; cases hc
  · rcases layN_cases _ _ _ _ hc with ⟨j, hj, rfl, h⟩ | ⟨_, h⟩
    · rw [(hi.beside ht j o hj h).1] at hf; cases hf
    · exact h

/-- An operation that leaves the state. -/
theorem Inv.still (hC : CtxOk C) (hex : ExOk C.P ex) (hi : Inv C ops b fr0 st0 Ds B0 φ0 w0 a0 L τ φ w a) (ht : TR C ex ops b fr0 st0 Ds) (hok : tmpsOk ops b ops 0 = true) {i : Nat} {o : Oper} (ho : ops[i]? = some o) (hn : ¬ L i) (hb : ∀ k, bitAt b i k = true → L k)
    {v : AV} (hput : (Ds i).fr.put o.dst v = some (Ds (i + 1)).fr) (hne : ¬ Eff C ops Ds i) (hln : look (Ds ops.length).al i = none) (h : aopO C ex o.op (mkd o (Ds i).fr) (Ds τ).st = some (v, (Ds τ).st)) (ro : Option Nat)
    {K : Act → World → Prop} {Q : Exit → Act → World → Prop} (hK : ∀ τ' φ' w' a', Inv C ops b fr0 st0 Ds B0 φ0 w0 a0 (fun k => L k ∨ k = i) τ' φ' w' a' → K a' w') : o.wpIn (FW ro) 0 C.P a w K Q := by
  refine opStep_ok hC hex (hi.post.sim.drop (hi.less ht)) (hi.masked ht hok ho hn hb) h ro a (execOp_congr o (by intro cs d hc; rw [hc] at h; simp [aopO] at h) (mact_eval a o)) fun φ' w' u hp hu => ?_
  have hfr := Post.frame hi.post.sim hp (hi.beside ht)
  refine hK τ φ' w' _ (hi.next ht hok ho hn hb hput ?_ hi.tle ?_ (fun x hx hz => hp.off x (by have := hi.nx; omega) hz) (fun j hj hor => hp.off _ (by have := hi.nx; omega) (hi.res j hj (hor.imp (fun h k => h (.inl k)) id))) hi.absent hi.nx hu)
  · rw [← layN_congr st0.next (Ds τ).st ops.length fun j _ => fL_add hln j]
    exact hfr.toPostW
  · intro e he
    rw [← hi.tau e he]
    exact ⟨fun h => h.elim id fun h => absurd (h ▸ he) hne, .inl⟩
end Go.AE

namespace Go.AE
open Go Go.RowKit

variable {C : Ctx} {ex : Exec} {ops : List Oper} {b : List Nat} {fr0 : Fr} {st0 : St} {Ds : Nat → Draw} {B0 : Nat} {φ0 φ : Emb} {w0 w : World} {a0 a : Act} {L : Nat → Prop} {τ : Nat}

theorem Inv.alloc (hi : Inv C ops b fr0 st0 Ds B0 φ0 w0 a0 L τ φ w a) (ht : TR C ex ops b fr0 st0 Ds) (hok : tmpsOk ops b ops 0 = true) {i : Nat} {o : Oper} (ho : ops[i]? = some o) (hn : ¬ L i) (hb : ∀ k, bitAt b i k = true → L k)
    {v : AV} (hput : (Ds i).fr.put o.dst v = some (Ds (i + 1)).fr) (hne : ¬ Eff C ops Ds i) {ob : AObj} (h : aalloc C.P (mkd o (Ds i).fr) o.op (st0.next + i) = some (v, ob)) (hl : look (Ds ops.length).al i = some ob) (ro : Option Nat)
    {K : Act → World → Prop} {Q : Exit → Act → World → Prop} (hK : ∀ τ' φ' w' a', Inv C ops b fr0 st0 Ds B0 φ0 w0 a0 (fun k => L k ∨ k = i) τ' φ' w' a' → K a' w') : o.wpIn (FW ro) 0 C.P a w K Q := by
  have hlt := (List.getElem?_eq_some_iff.1 ho).1
  have hTn := layN_next st0.next (fL (Ds ops.length).al (Ds τ).laid L) (Ds τ).st ops.length
  have hid : st0.next + i < (layN st0.next (fL (Ds ops.length).al (Ds τ).laid L) ops.length (Ds τ).st).next := by rw [hTn]; have := hi.nx; omega
  have hoff := hi.res i hlt (.inl hn)
  have hm := hi.masked ht hok ho hn hb
  rw [← hTn] at hm
  obtain ⟨φ', w', u, hrun, ⟨hp, hsame⟩, hu⟩ := aalloc_ok hi.post.sim hm hid hoff h
  refine ⟨fun f _ => FW_fn _ _, ?_⟩
  rw [Oper.semAt_eq _ _ _ (by intro c hc; rw [hc] at h; simp [aalloc] at h), execOp_congr o (by intro cs d hc; rw [hc] at h; simp [aalloc] at h) (mact_eval a o), hrun]
  have hSi : (Ds τ).st.heap.get (st0.next + i) = none := by
    cases hg : (Ds τ).st.heap.get (st0.next + i) with
    | none => rfl
    | some x => exact absurd hoff (hi.post.sim.on _ _ ((hi.less ht).sub _ _ hg))
  have hofam := aalloc_fam h
  have hbes : ∀ j x, j < ops.length → fL (Ds ops.length).al (Ds τ).laid (fun k => L k ∨ k = i) j = some x → x.fam = none ∧ (Ds τ).st.heap.get (st0.next + j) = none := by
    intro j x hj hx
    obtain ⟨k1, k2, k3⟩ := fL_some.1 hx
    rcases k1 with k1 | rfl
    · exact hi.beside ht j x hj (fL_some.2 ⟨k1, k2, k3⟩)
    · rw [hl] at k3; obtain rfl := Option.some.inj k3
      exact ⟨hofam, hSi⟩
  have hless : Less (layN st0.next (fL (Ds ops.length).al (Ds τ).laid (fun k => L k ∨ k = i)) ops.length (Ds τ).st) ((layN st0.next (fL (Ds ops.length).al (Ds τ).laid L) ops.length (Ds τ).st).setObj (st0.next + i) ob) := by
    refine ⟨by rw [layN_next, setObj_next, layN_next], by rw [layN_fams, setObj_fams, layN_fams], fun c x hc => ?_, fun c x f hc hf => ?_⟩
    · rw [setObj_get]
      rcases layN_cases _ _ _ _ hc with ⟨j, hj, rfl, hx⟩ | ⟨hnone, hx⟩
      · obtain ⟨k1, k2, k3⟩ := fL_some.1 hx
        rcases k1 with k1 | rfl
        · have hji : j ≠ i := fun e => hn (e ▸ k1)
          rw [if_neg (by omega)]
          exact layN_at _ _ _ (fL_some.2 ⟨k1, k2, k3⟩) _ hj
        · rw [hl] at k3
          rw [if_pos rfl, k3]
      · rw [if_neg (by rintro rfl; rw [hSi] at hx; cases hx)]
        exact (hi.less ht).sub _ _ hx
    · rw [setObj_get] at hc
      by_cases e : c = st0.next + i
      · rw [if_pos e] at hc
        obtain rfl := Option.some.inj hc
        rw [hofam] at hf; cases hf
      · rw [if_neg e] at hc
        have hx := (hi.less ht).fam c x f hc hf
        rw [layN_off]
        · exact hx
        · rintro j hj rfl
          cases hfj : fL (Ds ops.length).al (Ds τ).laid (fun k => L k ∨ k = i) j with
          | none => rfl
          | some y => rw [(hbes j y hj hfj).2] at hx; cases hx
  refine hK τ φ' w' _ (hi.next ht hok ho hn hb hput (hp.trans (Post.drop hp.sim hless).toPostW) hi.tle ?_ (fun x hx hz => ?_) (fun j hj hor => ?_) hi.absent hi.nx ?_)
  · intro e he
    rw [← hi.tau e he]
    exact ⟨fun h => h.elim id fun h => absurd (h ▸ he) hne, .inl⟩
  · rw [hsame x (by omega)]; exact hz
  · have hji : j ≠ i := by
      rintro rfl
      rcases hor with hor | hor
      · exact hor (.inr rfl)
      · rw [hl] at hor; cases hor
    rw [hsame _ (by omega)]
    exact hi.res j hj (hor.imp (fun h k => h (.inl k)) id)
  · rw [setObj_next, hTn] at hu
    exact hu

/-- An effect: it comes next among the effects. -/
theorem Inv.effect (hC : CtxOk C) (hex : ExOk C.P ex) (hi : Inv C ops b fr0 st0 Ds B0 φ0 w0 a0 L τ φ w a) (ht : TR C ex ops b fr0 st0 Ds) (hok : tmpsOk ops b ops 0 = true) {i : Nat} {o : Oper} (ho : ops[i]? = some o) (hn : ¬ L i) (hb : ∀ k, bitAt b i k = true → L k)
    {v : AV} (hput : (Ds i).fr.put o.dst v = some (Ds (i + 1)).fr) (heff : Eff C ops Ds i) (hbef : ∀ e, Eff C ops Ds e → e < i → L e) (hln : look (Ds ops.length).al i = none) {S : St}
    (h : aopO C ex o.op (mkd o (Ds i).fr) (layIn ((nth b i).getD 0) (Ds i).laid (Ds i).al (Ds i).st) = some (v, S)) (hS : (Ds (i + 1)).st = S) (hL : (Ds (i + 1)).laid = (Ds i).laid ||| (nth b i).getD 0) (ro : Option Nat)
    {K : Act → World → Prop} {Q : Exit → Act → World → Prop} (hK : ∀ τ' φ' w' a', Inv C ops b fr0 st0 Ds B0 φ0 w0 a0 (fun k => L k ∨ k = i) τ' φ' w' a' → K a' w') : o.wpIn (FW ro) 0 C.P a w K Q := by
  have hlt := (List.getElem?_eq_some_iff.1 ho).1
  have hti : τ ≤ i := by
    by_cases e : τ ≤ i
    · exact e
    · exact absurd ((hi.tau i heff).2 (by omega)) hn
  have hnoeff : ∀ e, τ ≤ e → e < i → ¬ Eff C ops Ds e := fun e h1 h2 he => by
    have := (hi.tau e he).1 (hbef e he h2); omega
  obtain ⟨q1, q2, q3⟩ := ht.still_to (t := τ) (i - τ) (by omega) (fun e h1 h2 => hnoeff e h1 (by omega))
  rw [show τ + (i - τ) = i from by omega] at q1 q2 q3
  rw [q1, q3] at h
  rw [q3] at hL
  obtain ⟨a1, a2⟩ := ht.al i (by omega)
  -- an entry of the list at i
  have hlook : ∀ x ∈ (Ds i).al, look (Ds ops.length).al x.1 = some x.2.2 := by
    intro x hx
    obtain ⟨b1, b2, b3, b4⟩ := a1 x hx
    have := ht.look_up (j := x.1) (i := i) b1 (ops.length - i) (by omega)
    rw [show i + (ops.length - i) = ops.length from by omega] at this
    rw [this]; exact b4
  let Sp := layIn ((nth b i).getD 0) (Ds τ).laid (Ds i).al (Ds τ).st
  let T := layN st0.next (fL (Ds ops.length).al (Ds τ).laid L) ops.length (Ds τ).st
  let g := fL (Ds ops.length).al ((Ds τ).laid ||| (nth b i).getD 0) L
  have hg : ∀ j x, j < ops.length → g j = some x → L j ∧ (Ds τ).laid.testBit j = false ∧ ((nth b i).getD 0).testBit j = false ∧ look (Ds ops.length).al j = some x := by
    intro j x _ hx
    obtain ⟨k1, k2, k3⟩ := fL_some.1 hx
    rw [Nat.testBit_or, Bool.or_eq_false_iff] at k2
    exact ⟨k1, k2.1, k2.2, k3⟩
  have hSpn : Sp.next = (Ds τ).st.next := layIn_next _ _ _ _
  have hSpf : Sp.fams = (Ds τ).st.fams := layIn_fams _ _ _ _
  have hSpg : ∀ j x, j < ops.length → g j = some x → x.fam = none ∧ Sp.heap.get (st0.next + j) = none := by
    intro j x hj hx
    obtain ⟨k1, k2, k3, k4⟩ := hg j x hj hx
    refine ⟨(hi.beside ht j x hj (fL_some.2 ⟨k1, k2, k4⟩)).1, ?_⟩
    show (layIn _ _ _ _).heap.get _ = none
    rw [layIn_off]
    · exact hi.absent j hj k2
    · intro y hy h1 _ he
      have := (a1 y hy).2.1
      have hjy : j = y.1 := by omega
      rw [← hjy, k3] at h1
      cases h1
  -- what stands in T
  have hless : Less (layN st0.next g ops.length Sp) T := by
    refine ⟨by rw [layN_next, hSpn]; exact (layN_next _ _ _ _).symm, by rw [layN_fams, hSpf]; exact (layN_fams _ _ _ _).symm, fun c x hc => ?_, fun c x f hc hf => ?_⟩
    · rcases layN_cases _ _ _ _ hc with ⟨j, hj, rfl, hx⟩ | ⟨_, hx⟩
      · obtain ⟨k1, k2, k3, k4⟩ := hg j x hj hx
        exact layN_at _ _ _ (fL_some.2 ⟨k1, k2, k4⟩) _ hj
      · rcases layIn_cases hx with ⟨y, hy, h1, h2, rfl, rfl⟩ | h1
        · obtain ⟨b1, b2, b3, b4⟩ := a1 y hy
          rw [b2]
          exact layN_at _ _ _ (fL_some.2 ⟨hb y.1 h1, h2, hlook y hy⟩) _ (by omega)
        · exact (hi.less ht).sub _ _ h1
    · have hx := (hi.less ht).fam c x f hc hf
      rw [layN_off]
      · show (layIn _ _ _ _).heap.get _ = _
        rw [layIn_off]
        · exact hx
        · rintro y hy _ h2 rfl
          obtain ⟨b1, b2, _, _⟩ := a1 y hy
          rw [b2, hi.absent y.1 (by omega) h2] at hx; cases hx
      · rintro j hj rfl
        cases hgj : g j with
        | none => rfl
        | some y =>
          obtain ⟨_, k2, _, _⟩ := hg j y hj hgj
          rw [hi.absent j hj k2] at hx; cases hx
  have hpd := Post.drop hi.post.sim hless
  have hlS : Less Sp (layN st0.next g ops.length Sp) := by
    refine ⟨(layN_next _ _ _ _).symm, (layN_fams _ _ _ _).symm, fun c x hc => ?_, fun c x f hc hf => ?_⟩
    · rw [layN_off]
      · exact hc
      · rintro j hj rfl
        cases hgj : g j with
        | none => rfl
        | some y => rw [(hSpg j y hj hgj).2] at hc; cases hc
    · rcases layN_cases _ _ _ _ hc with ⟨j, hj, rfl, hx⟩ | ⟨_, hx⟩
      · rw [(hSpg j x hj hx).1] at hf; cases hf
      · exact hx
  have hm := hi.masked ht hok ho hn hb
  rw [← hSpn] at hm
  refine opStep_ok hC hex (hpd.sim.drop hlS) hm h ro a (execOp_congr o (by intro cs d hc; rw [hc] at h; simp [aopO] at h) (mact_eval a o)) fun φ' w' u hp hu => ?_
  have hfr := Post.frame hpd.sim hp hSpg
  have hdom : st0.next + ops.length ≤ Sp.next := by rw [hSpn]; exact hi.nx
  refine hK (i + 1) φ' w' _ (hi.next ht hok ho hn hb hput ?_ (by omega) ?_ (fun x hx hz => hp.off x (by omega) hz) (fun j hj hor => hp.off _ (by omega) (hi.res j hj (hor.imp (fun h k => h (.inl k)) id))) ?_ (by rw [hS]; exact Nat.le_trans hdom hp.nx) (by rw [hS]; exact hu))
  · have := hpd.toPostW.trans hfr.toPostW
    rw [hS, hL]
    rw [← layN_congr st0.next S ops.length fun j _ => fL_add hln j]
    exact this
  · intro e he
    constructor
    · rintro (h1 | rfl)
      · have := (hi.tau e he).1 h1; omega
      · omega
    · intro h1
      by_cases h2 : e = i
      · exact .inr h2
      · exact .inl (hbef e he (by omega))
  · intro j hj hlb
    rw [hL, Nat.testBit_or, Bool.or_eq_false_iff] at hlb
    rw [hS]
    cases hx : S.heap.get (st0.next + j) with
    | none => rfl
    | some x =>
      exfalso
      have hon := hp.sim.on _ _ hx
      have hold : Old φ Sp (st0.next + j) := ⟨by omega, fun hz => hon (hp.off _ (by omega) hz)⟩
      obtain ⟨o0, h0⟩ := (hp.img _ _ hx).2.2 hold
      rcases layIn_cases h0 with ⟨y, hy, h1, _, he, _⟩ | h1
      · have := (a1 y hy).2.1
        have hjy : j = y.1 := by omega
        rw [← hjy, hlb.2] at h1; cases h1
      · rw [hi.absent j hj hlb.1] at h1; cases h1
end Go.AE

namespace Go.AE
open Go Go.RowKit

variable {P : Program} {φ : Emb} {w : World} {B0 : Nat} {st : St}

/-- A region that draws its order. -/
def DrawOk (C : Ctx) (ex : Exec) : Prop :=
  ∀ (id : Nat) (ops : Array Oper) (fr fr' : Fr) (st st' : St), aregionD C ex ops.toList (bef ops.toList []) fr st = some (fr', st') → ∀ (B0 m0 : Nat) (φ : Emb) (w : World) (a : Act) (ro : Option Nat) (Q : Exit → Act → World → Prop),
    Sim B0 φ st w → FrR st.next φ fr a → Marks m0 φ st w a.defers →
    (∀ φ' w' a', Post B0 φ st w φ' st' w' → FrR st'.next φ' fr' a' → Marks m0 φ' st' w' a'.defers → fr'.rd = fr.rd → Q .normal a' w') →
    (Code.region id ops true).wpIn (FW ro) 0 C.P Q a w

theorem rangeFunc_ok {ex : Exec} (hnum : ∀ (f : FuncId) (fn : Func), P.funcs[f]? = some fn → (fn.name == "runtime.NumGoroutine") = false) (hex : ExOk P ex) {g : Operand} {ps : Array Tmp} {assign body : Code} {fr fr' : Fr} {gv : AV} {e : Ex} {st' : St} {a : Act} {m0 : Nat} {Q : Exit → Act → World → Prop}
    (hg : ev fr g = some gv) (h : rangeF P ex ps.toList assign body fr st gv = some (e, fr', st')) (hs : Sim B0 φ st w) (hfr : FrR st.next φ fr a) (hm0 : m0 ≤ w.heap.size) (hm : Marks m0 φ st w a.defers)
    (hQ : ∀ φ' w' a', Post B0 φ st w φ' st' w' → FrR st'.next φ' fr' a' → Marks m0 φ' st' w' a'.defers → fr'.rd = fr.rd → Q (exitOf e) a' w') :
    (Code.rangeFunc g ps assign body).wpIn (FW none) 0 P Q a w := by
  unfold rangeF at h
  split at h
  · rename_i f first captured
    rw [bnd_eq] at h
    obtain ⟨⟨v, st2⟩, hcall, h⟩ := h
    refine wpIn_rangeFunc fun fn _ => ?_
    -- the two blocks
    let w1 : World := w.alloc (.deferred (some []))
    let rec0 : Loop := { state := .ready, pending := none, fn := fn, tmps := a.tmps, params := ps, assign := assign, body := body, defers := w.heap.size }
    let w2 : World := w1.alloc (.loop rec0)
    have hp1 : Post B0 φ st w φ st w1 := Post.lay hs rfl rfl rfl rfl
    have hsz1 : w1.heap.size = w.heap.size + 1 := by show (w.heap.push _).size = _; simp
    have hnx : (st.push (.loop .ready none fr ps.toList assign body)).next = st.next + 1 := push_next _ _
    obtain ⟨φ2, hp2, hblk, hon2⟩ : ∃ φ2, Post B0 φ st w1 φ2 (st.push (.loop .ready none fr ps.toList assign body)) w2 ∧ (φ2 st.next).blk = w1.heap.size ∧ (φ2 st.next).z ≠ 0 := by
      have hP := Post.alloc (w' := w2) (o := .loop .ready none fr ps.toList assign body) (O := .loop rec0) (im := ⟨w1.heap.size, 0, 0, 1⟩) (fams' := st.fams) hp1.sim rfl rfl rfl rfl rfl (.inl ⟨rfl, rfl⟩)
        ⟨fn, a.tmps, w.heap.size, by simp [rec0], by
          have := hfr.mono (Nat.le_succ st.next) (agr_upd φ st.next ⟨w1.heap.size, 0, 0, 1⟩)
          exact ⟨this.size, this.val⟩⟩
      obtain ⟨hp, fams, nx⟩ := st
      exact ⟨_, hP, by rw [upd_same], by rw [upd_same]; simp⟩
    have hpa := hp1.trans hp2
    have hrd0 : w2.heap[w.heap.size]? = some (.deferred (some [])) := by
      show ((w.heap.push _).push _)[w.heap.size]? = _
      rw [Array.getElem?_push, if_neg (by simp), Array.getElem?_push, if_pos rfl]
    have hoff0 : Off φ2 (st.push (.loop .ready none fr ps.toList assign body)) w.heap.size := by
      intro b o hb he
      obtain ⟨_, i2, i3⟩ := hp2.img b o hb
      by_cases hbn : Old φ st b
      · obtain ⟨o0, h0⟩ := i3 hbn
        rw [hp2.agr b hbn.1 hbn.2] at he
        have := hs.bd b o0 h0
        omega
      · rcases i2 hbn with h4 | ⟨b0, o0, h0, _, he0⟩
        · omega
        · have := hs.bd b0 o0 h0
          rw [he0] at this
          omega
    have hmk : Marks m0 φ2 (st.push (.loop .ready none fr ps.toList assign body)) w2 ({ target := .collected w.heap.size, args := #[] } :: a.defers) := by
      obtain ⟨rs, hds, hnd, hrs⟩ := hm.post hpa
      obtain ⟨rs0, hds0, _, hrs0⟩ := hm
      refine ⟨w.heap.size :: rs, by rw [hds]; rfl, List.nodup_cons.2 ⟨fun hmem => ?_, hnd⟩, fun r hr => ?_⟩
      · have hinj : rs = rs0 := (List.map_inj_right (fun x y h => by simpa using h)).1 (hds.symm.trans hds0)
        subst hinj
        have := (Array.getElem?_eq_some_iff.1 (hrs0 _ hmem).2.1).1
        omega
      · rcases List.mem_cons.1 hr with rfl | hr
        · exact ⟨hm0, hrd0, hoff0⟩
        · exact hrs r hr
    have hrf := ev_ok hs.base hfr hg
    obtain ⟨us1, us2, he, r1, r2⟩ : ∃ us1 us2 : List Value, a.eval g = .func (.func f) us1.toArray us2.toArray ∧ RepL st.next φ first us1 ∧ RepL st.next φ captured us2 := by
      refine ⟨concL φ first, concL φ captured, by rw [← hrf.now, conc]; rfl, ?_, ?_⟩
      · intro φ' h'
        have := hrf φ' h'
        rw [← hrf.now, conc, conc] at this
        exact List.toArray_inj (Value.func.inj this).2.1
      · intro φ' h'
        have := hrf φ' h'
        rw [← hrf.now, conc, conc] at this
        exact List.toArray_inj (Value.func.inj this).2.2
    have hyield : Rep (st.push (.loop .ready none fr ps.toList assign body)).next φ2 (.func (.yield st.next) [] []) (.func (.yield w1.heap.size) #[] #[]) := by
      intro φ' h'
      rw [conc, concFn, h' st.next (by omega) hon2, hblk]
      rfl
    have hargs : RepL (st.push (.loop .ready none fr ps.toList assign body)).next φ2 (first ++ (.func (.yield st.next) [] [] :: captured)) (us1 ++ (.func (.yield w1.heap.size) #[] #[] :: us2)) :=
      (r1.mono hpa.nx hpa.agr).append (RepL.cons hyield (r2.mono hpa.nx hpa.agr))
    obtain ⟨⟨fnc, c, hf, hb⟩, hcalls⟩ := acallB_ok (R := rangePost (FW none) 0 P w1.heap.size Q { a with defers := [{ target := .collected w.heap.size, args := #[] }] ++ a.defers }) hex hcall hp2.sim hargs (by
      intro φ3 w3 u hp3 hu
      have hpall := hpa.trans hp3
      have hlt : st.next < (st.push (.loop .ready none fr ps.toList assign body)).next := by omega
      have hblk3 : (φ3 st.next).blk = w1.heap.size := by rw [hp3.agr st.next hlt hon2, hblk]
      have fin : ∀ {state : LoopState} {pend : Option Code} {fr0 : Fr} {ps0 : List Tmp} {as bd : Code}, st2.heap.get st.next = some (.loop state pend fr0 ps0 as bd) → state ≠ .busy → st' = st2.setObj st.next (.loop .exhausted pend fr0 ps0 as bd) → fr' = fr →
          ∃ w4, (Instr.endLoop w1.heap.size).run P w3 = .ok pend w4 ∧ Q (exitOf e) { a with defers := [{ target := .collected w.heap.size, args := #[] }] ++ a.defers } w4 := by
        rintro state pend fr0 ps0 as bd hl hne rfl rfl
        obtain ⟨fn3, tmps3, defs3, hO3, hfr3⟩ := hp3.sim.loop hl
        have hp4 := Post.loop (state' := .exhausted) (pend' := pend) (fn := fn3) (tmps := tmps3) (defs := defs3) hp3.sim hl hfr3
        rw [hblk3] at hO3 hp4
        refine ⟨_, ?_, hQ φ3 _ _ (hpall.trans hp4) ?_ ((hmk.post hp3).post hp4) rfl⟩
        · have hb : (state == LoopState.busy) = false := by cases state <;> first | rfl | exact absurd rfl hne
          simp only [Instr.endLoop, Sem.run_bind, run_getLoop hO3, Result.andThen_ok, hb, Bool.false_eq_true, if_false, run_setObj hO3 (by simp), Sem.run_pure]
        · have := (hpall.trans hp4).frR hfr
          exact ⟨this.size, this.val⟩
      simp only [endLoopV] at h
      split at h
      · rename_i fr0 ps0 as bd hl
        simp only [Option.some.injEq, Prod.mk.injEq] at h
        obtain ⟨rfl, rfl, rfl⟩ := h
        obtain ⟨w4, h1, h2⟩ := fin hl (by simp) rfl rfl
        exact ⟨none, w4, h1, h2⟩
      · rename_i fr0 ps0 as bd hl
        simp only [Option.some.injEq, Prod.mk.injEq] at h
        obtain ⟨rfl, rfl, rfl⟩ := h
        obtain ⟨w4, h1, h2⟩ := fin hl (by simp) rfl rfl
        exact ⟨some .ret, w4, h1, wpIn_ret h2⟩
      · rename_i i fr0 ps0 as bd hl
        simp only [Option.some.injEq, Prod.mk.injEq] at h
        obtain ⟨rfl, rfl, rfl⟩ := h
        obtain ⟨w4, h1, h2⟩ := fin hl (by simp) rfl rfl
        exact ⟨some (.exit i), w4, h1, wpIn_exit h2⟩
      · cases h)
    refine ⟨w1.heap.size, [{ target := .collected w.heap.size, args := #[] }], w2, { target := .fn (.func f) us2.toArray, args := us1.toArray ++ #[.func (.yield w1.heap.size) #[] #[]] }, w2, f, (us1 ++ (.func (.yield w1.heap.size) #[] #[] :: us2)).toArray, w2, ?_, ?_, ?_, ?_, ?_, ?_⟩
    · simp only [Instr.enterLoop, FW_round, Sem.run_bind, run_newObj, Result.andThen_ok, Sem.run_pure]
      rfl
    · simp only [resolve, Deferred.ofValue, he]
      simp [Act.eval]
    · exact fun f' _ => trivial
    · have hpr : ∀ w : World, (program : Sem Program).run P w = .ok P w := fun _ => rfl
      have hcat : us1.toArray ++ #[Value.func (.yield w1.heap.size) #[] #[]] ++ us2.toArray = (us1 ++ (.func (.yield w1.heap.size) #[] #[] :: us2)).toArray := by apply Array.ext'; simp
      simp only [invoke, callFunc, Sem.run_bind, hpr, Result.andThen_ok, hf, hnum f fnc hf, hb, Option.isNone_some, Bool.false_eq_true, if_false, Sem.run_pure, hcat]
    · exact fun hd => absurd hd (by simp [FW, Fence.wide])
    · exact hcalls
  · cases h

/-- The rounds of a loop. -/
def RoundsOk (P : Program) (ex : Exec) (n : Nat) : Prop :=
  ∀ (c : Code) (fr : Fr) (st : St) (e : Ex) (fr' : Fr) (st' : St), ex (.loop c) fr st = some (e, fr', st') → ∀ (B0 m0 : Nat) (φ : Emb) (w : World) (a : Act) (ro : Option Nat) (Q : Exit → Act → World → Prop),
    Sim B0 φ st w → FrR st.next φ fr a → (fr.rd = none → ro = none) → m0 ≤ w.heap.size → Marks m0 φ st w a.defers →
    (∀ φ' w' a', Post B0 φ st w φ' st' w' → FrR st'.next φ' fr' a' → Marks m0 φ' st' w' a'.defers → fr'.rd = fr.rd → Q (exitOf e) a' w') →
    Code.roundsIn (FW ro) 0 P c Q n a w

theorem aexec_ok {C : Ctx} (hC : CtxOk C) (hD : ∀ ex, ExOk C.P ex → DrawOk C ex) : ∀ n, ExOk C.P (aexec C n) ∧ RoundsOk C.P (aexec C n) n
  | 0 => ⟨fun c fr st e fr' st' h => (by cases h), fun c fr st e fr' st' h => (by cases h)⟩
  | n + 1 => by
    obtain ⟨ih, ihr⟩ := aexec_ok hC hD n
    have hrounds : RoundsOk C.P (aexec C (n + 1)) (n + 1) := by
      intro c fr st e fr' st' h B0 m0 φ w a ro Q hs hfr hrd hm0 hm hQ
      have h : ((aexec C n) c fr st).bnd (thenDo (aexec C n) (.loop c)) = some (e, fr', st') := h
      rw [bnd_eq] at h
      obtain ⟨⟨e1, fr1, st1⟩, h1, h2⟩ := h
      refine ih c fr st e1 fr1 st1 h1 B0 m0 φ w a ro _ hs hfr hrd hm0 hm ?_
      intro φ1 w1 a1 hp1 hfr1 hm1 hrd1
      cases e1 with
      | normal => exact ihr c fr1 st1 e fr' st' h2 B0 m0 φ1 w1 a1 ro Q hp1.sim hfr1 (fun hn => hrd (hrd1 ▸ hn)) (Nat.le_trans hm0 hp1.size) hm1 fun φ2 w2 a2 hp2 hfr2 hm2 hrd2 => hQ φ2 w2 a2 (hp1.trans hp2) hfr2 hm2 (hrd2.trans hrd1)
      | exit i =>
        simp only [thenDo, Option.some.injEq, Prod.mk.injEq] at h2
        obtain ⟨rfl, rfl, rfl⟩ := h2
        exact hQ φ1 w1 a1 hp1 hfr1 hm1 hrd1
      | ret =>
        simp only [thenDo, Option.some.injEq, Prod.mk.injEq] at h2
        obtain ⟨rfl, rfl, rfl⟩ := h2
        exact hQ φ1 w1 a1 hp1 hfr1 hm1 hrd1
    refine ⟨?_, hrounds⟩
    intro c fr st e fr' st' h0 B0 m0 φ w a ro Q hs hfr hrd hm0 hm hQ
    have h : stepCode C (aexec C n) c fr st = some (e, fr', st') := h0
    unfold stepCode at h
    split at h
    · simp only [Option.some.injEq, Prod.mk.injEq] at h
      obtain ⟨rfl, rfl, rfl⟩ := h
      exact wpIn_skip (hQ φ w a (Post.refl hs) hfr hm rfl)
    · simp only [Option.some.injEq, Prod.mk.injEq] at h
      obtain ⟨rfl, rfl, rfl⟩ := h
      exact wpIn_label (hQ φ w a (Post.refl hs) hfr hm rfl)
    · rename_i x y
      simp only [bnd_eq] at h
      obtain ⟨⟨e1, fr1, st1⟩, h1, h2⟩ := h
      refine wpIn_seq (ih x fr st e1 fr1 st1 h1 B0 m0 φ w a ro _ hs hfr hrd hm0 hm ?_)
      intro φ1 w1 a1 hp1 hfr1 hm1 hrd1
      cases e1 with
      | normal => exact ih y fr1 st1 e fr' st' h2 B0 m0 φ1 w1 a1 ro Q hp1.sim hfr1 (fun hn => hrd (hrd1 ▸ hn)) (Nat.le_trans hm0 hp1.size) hm1 fun φ2 w2 a2 hp2 hfr2 hm2 hrd2 => hQ φ2 w2 a2 (hp1.trans hp2) hfr2 hm2 (hrd2.trans hrd1)
      | exit i =>
        simp only [thenDo, Option.some.injEq, Prod.mk.injEq] at h2
        obtain ⟨rfl, rfl, rfl⟩ := h2
        exact hQ φ1 w1 a1 hp1 hfr1 hm1 hrd1
      | ret =>
        simp only [thenDo, Option.some.injEq, Prod.mk.injEq] at h2
        obtain ⟨rfl, rfl, rfl⟩ := h2
        exact hQ φ1 w1 a1 hp1 hfr1 hm1 hrd1
    · rename_i x y z
      simp only [cCond] at h
      split at h
      · rename_i hx
        exact wpIn_cond_true (ev_ok hs.base hfr hx).bool_inv (ih y fr st e fr' st' h B0 m0 φ w a ro Q hs hfr hrd hm0 hm hQ)
      · rename_i hx
        exact wpIn_cond_false (ev_ok hs.base hfr hx).bool_inv (ih z fr st e fr' st' h B0 m0 φ w a ro Q hs hfr hrd hm0 hm hQ)
      · cases h
    · rename_i id x
      simp only [bnd_eq] at h
      obtain ⟨⟨e1, fr1, st1⟩, h1, h2⟩ := h
      refine wpIn_block (ih x fr st e1 fr1 st1 h1 B0 m0 φ w a ro _ hs hfr hrd hm0 hm ?_)
      intro φ1 w1 a1 hp1 hfr1 hm1 hrd1
      cases e1 with
      | normal =>
        simp only [catchId, Option.some.injEq, Prod.mk.injEq] at h2
        obtain ⟨rfl, rfl, rfl⟩ := h2
        exact hQ φ1 w1 a1 hp1 hfr1 hm1 hrd1
      | exit i =>
        simp only [catchId] at h2
        show (if i = id then Q .normal a1 w1 else Q (.exit i) a1 w1)
        by_cases hid : i = id
        · have hb : Nat.beq i id = true := by rw [hid]; exact Nat.beq_refl id
          rw [if_pos hid]
          simp only [hb, cnd_true, Option.some.injEq, Prod.mk.injEq] at h2
          obtain ⟨rfl, rfl, rfl⟩ := h2
          exact hQ φ1 w1 a1 hp1 hfr1 hm1 hrd1
        · have hb : Nat.beq i id = false := by
            cases hbb : Nat.beq i id with
            | false => rfl
            | true => exact absurd (Nat.eq_of_beq_eq_true hbb) hid
          rw [if_neg hid]
          simp only [hb, cnd_false, Option.some.injEq, Prod.mk.injEq] at h2
          obtain ⟨rfl, rfl, rfl⟩ := h2
          exact hQ φ1 w1 a1 hp1 hfr1 hm1 hrd1
      | ret =>
        simp only [catchId, Option.some.injEq, Prod.mk.injEq] at h2
        obtain ⟨rfl, rfl, rfl⟩ := h2
        exact hQ φ1 w1 a1 hp1 hfr1 hm1 hrd1
    · rename_i x
      exact wpIn_loop_rounds (n + 1) (hrounds x fr st e fr' st' h0 B0 m0 φ w a ro Q hs hfr hrd hm0 hm hQ)
    · simp only [Option.some.injEq, Prod.mk.injEq] at h
      obtain ⟨rfl, rfl, rfl⟩ := h
      exact wpIn_exit (hQ φ w a (Post.refl hs) hfr hm rfl)
    · simp only [Option.some.injEq, Prod.mk.injEq] at h
      obtain ⟨rfl, rfl, rfl⟩ := h
      exact wpIn_ret (hQ φ w a (Post.refl hs) hfr hm rfl)
    · rename_i id ops draw
      unfold cRegion at h
      cases draw with
      | true =>
        simp only [bnd_eq] at h
        obtain ⟨⟨fr1, st1⟩, h1, h2⟩ := h
        simp only [fin, Option.some.injEq, Prod.mk.injEq] at h2
        obtain ⟨rfl, rfl, rfl⟩ := h2
        exact hD _ ih id ops fr fr1 st st1 h1 B0 m0 φ w a ro Q hs hfr hm hQ
      | false =>
        simp only [bnd_eq] at h
        obtain ⟨⟨fr1, st1⟩, h1, h2⟩ := h
        simp only [fin, Option.some.injEq, Prod.mk.injEq] at h2
        obtain ⟨rfl, rfl, rfl⟩ := h2
        exact region_ok hC ih h1 hs hfr hm hQ
    · rename_i g ps as bd
      unfold cRangeFunc at h
      split at h
      · rename_i hrdn
        rw [bnd_eq] at h
        obtain ⟨gv, hg, h⟩ := h
        obtain rfl := hrd hrdn
        exact rangeFunc_ok hC.noNum ih hg h hs hfr hm0 hm hQ
      · cases h
    · cases h
end Go.AE

namespace Go.AE
open Go Go.RowKit

variable {C : Ctx} {ex : Exec} {ops : List Oper} {b : List Nat} {fr0 : Fr} {st0 : St} {Ds : Nat → Draw} {B0 : Nat} {φ0 φ : Emb} {w0 w : World} {a0 a : Act} {L : Nat → Prop} {τ : Nat}

/-! Effects met so far -/
structure HistOk (C : Ctx) (ops : List Oper) (b : List Nat) (Ds : Nat → Draw) (i : Nat) : Prop where
  eff : ∀ x ∈ (Ds i).hist, x.1 < i ∧ Eff C ops Ds x.1 ∧ x.2.1 = (nth b x.1).getD 0
  all : ∀ e, Eff C ops Ds e → e < i → ∃ x ∈ (Ds i).hist, x.1 = e
  head : ∀ x r, (Ds i).hist = x :: r → ∀ e, Eff C ops Ds e → e < i → e ≤ x.1
theorem TR.hist (ht : TR C ex ops b fr0 st0 Ds) : ∀ i, i ≤ ops.length → HistOk C ops b Ds i
  | 0, _ => by
    have h : (Ds 0).hist = [] := by rw [ht.start]
    refine ⟨?_, fun e _ he => absurd he (by omega), fun x r hx => by rw [h] at hx; cases hx⟩
    rw [h]; intro x hx; cases hx
  | i + 1, hi => by
    have ih := ht.hist i (by omega)
    have ho : ops[i]? = some ops[i] := by simp
    by_cases he : Eff C ops Ds i
    · obtain ⟨o, ho', hw, hk⟩ := he
      obtain ⟨v, hput, hs⟩ := ht.step i o ho'
      rcases hs with ⟨h1, _⟩ | ⟨_, h1, _⟩ | ⟨_, h1, _⟩ | ⟨_, h1, _⟩ | ⟨_, _, h1, S, h2, hD⟩
      · rw [hw] at h1; cases h1
      · rw [hk] at h1; cases h1
      · rw [hk] at h1; cases h1
      · rw [hk] at h1; cases h1
      · have hh : (Ds (i + 1)).hist = (i, (nth b i).getD 0, S) :: (Ds i).hist := by rw [hD]
        refine ⟨?_, fun e h3 h4 => ?_, fun x r hx => ?_⟩
        · rw [hh]
          intro x hx
          rcases List.mem_cons.1 hx with rfl | hx
          · exact ⟨by simp, ⟨o, ho', hw, hk⟩, rfl⟩
          · obtain ⟨a1, a2, a3⟩ := ih.eff x hx
            exact ⟨by omega, a2, a3⟩
        · rw [hh]
          by_cases h5 : e = i
          · exact ⟨_, List.mem_cons_self, h5.symm⟩
          · obtain ⟨x, hx, hxe⟩ := ih.all e h3 (by omega)
            exact ⟨x, List.mem_cons_of_mem _ hx, hxe⟩
        · rw [hh] at hx
          obtain ⟨rfl, _⟩ := List.cons.inj hx
          intro e _ h4
          show e ≤ i
          omega
    · obtain ⟨_, hh, _⟩ := ht.still (by omega) he
      refine ⟨?_, fun e h3 h4 => ?_, fun x r hx e h3 h4 => ?_⟩
      · rw [hh]
        intro x hx
        obtain ⟨a1, a2, a3⟩ := ih.eff x hx
        exact ⟨by omega, a2, a3⟩
      · rw [hh]
        by_cases h5 : e = i
        · exact absurd (h5 ▸ h3) he
        · exact ih.all e h3 (by omega)
      · rw [hh] at hx
        by_cases h5 : e = i
        · exact absurd (h5 ▸ h3) he
        · exact ih.head x r hx e h3 (by omega)

/-- The state behind the effects ahead of τ. -/
noncomputable def stateAt (τ : Nat) : List (Nat × Nat × St) → St → St
  | [], S => S
  | (e, _, S') :: r, S => if e < τ then stateAt τ r S' else S
theorem stateAt_ge {τ : Nat} {x : Nat × Nat × St} (h : τ ≤ x.1) : ∀ (l : List (Nat × Nat × St)) (S : St), stateAt τ (l ++ [x]) S = stateAt τ l S
  | [], S => by
    obtain ⟨e, be, S'⟩ := x
    show (if e < τ then _ else S) = S
    rw [if_neg]
    have : τ ≤ e := h
    omega
  | (e, be, S') :: l, S => by
    show (if e < τ then stateAt τ (l ++ [x]) S' else S) = (if e < τ then stateAt τ l S' else S)
    rw [stateAt_ge h l S']
theorem stateAt_last {τ : Nat} {x : Nat × Nat × St} (h : x.1 < τ) : ∀ (l : List (Nat × Nat × St)) (S : St), (∀ y ∈ l, y.1 < τ) → stateAt τ (l ++ [x]) S = x.2.2
  | [], S, _ => by
    obtain ⟨e, be, S'⟩ := x
    show (if e < τ then _ else S) = S'
    rw [if_pos h]; rfl
  | (e, be, S') :: l, S, hl => by
    show (if e < τ then stateAt τ (l ++ [x]) S' else S) = _
    rw [if_pos (hl _ List.mem_cons_self)]
    exact stateAt_last h l S' fun y hy => hl y (List.mem_cons_of_mem _ hy)
theorem stateAt_all {τ τ' : Nat} : ∀ (l : List (Nat × Nat × St)) (S : St), (∀ y ∈ l, y.1 < τ ∧ y.1 < τ') → stateAt τ l S = stateAt τ' l S
  | [], S, _ => rfl
  | (e, be, S') :: l, S, hl => by
    show (if e < τ then stateAt τ l S' else S) = (if e < τ' then stateAt τ' l S' else S)
    rw [if_pos (hl _ List.mem_cons_self).1, if_pos (hl _ List.mem_cons_self).2]
    exact stateAt_all l S' fun y hy => hl y (List.mem_cons_of_mem _ hy)
theorem TR.stateAt (ht : TR C ex ops b fr0 st0 Ds) : ∀ i, i ≤ ops.length → ∀ τ, τ ≤ i → AE.stateAt τ (Ds i).hist.reverse (resv ops.length st0) = (Ds τ).st
  | 0, _, τ, hτ => by
    obtain rfl : τ = 0 := by omega
    rw [ht.start]; rfl
  | i + 1, hi, τ, hτ => by
    have ih := ht.stateAt i (by omega)
    have hk := ht.hist i (by omega)
    by_cases he : Eff C ops Ds i
    · obtain ⟨o, ho', hw, hk'⟩ := he
      obtain ⟨v, hput, hs⟩ := ht.step i o ho'
      rcases hs with ⟨h1, _⟩ | ⟨_, h1, _⟩ | ⟨_, h1, _⟩ | ⟨_, h1, _⟩ | ⟨_, _, h1, S, h2, hD⟩
      · rw [hw] at h1; cases h1
      · rw [hk'] at h1; cases h1
      · rw [hk'] at h1; cases h1
      · rw [hk'] at h1; cases h1
      · have hh : (Ds (i + 1)).hist = (i, (nth b i).getD 0, S) :: (Ds i).hist := by rw [hD]
        rw [hh, List.reverse_cons]
        by_cases h5 : τ ≤ i
        · rw [stateAt_ge (by exact h5)]
          exact ih τ h5
        · obtain rfl : τ = i + 1 := by omega
          rw [stateAt_last (by exact Nat.lt_succ_self i)]
          · rw [hD]
          · intro y hy
            have := (hk.eff y (List.mem_reverse.1 hy)).1
            omega
    · obtain ⟨hst, hh, _⟩ := ht.still (by omega) he
      rw [hh]
      by_cases h5 : τ ≤ i
      · exact ih τ h5
      · obtain rfl : τ = i + 1 := by omega
        rw [hst, ← ih i (Nat.le_refl _)]
        refine stateAt_all _ _ fun y hy => ?_
        have := (hk.eff y (List.mem_reverse.1 hy)).1
        omega
theorem anyIn_mem {bi : Nat} : ∀ {l : List (Nat × Nat × St)}, anyIn bi l = true → ∃ x ∈ l, bi.testBit x.1 = true
  | [], h => by cases h
  | (e, be, S) :: r, h => by
    simp only [anyIn, Bool.or_eq_true] at h
    rcases h with h | h
    · exact ⟨_, List.mem_cons_self, h⟩
    · obtain ⟨x, hx, h⟩ := anyIn_mem h
      exact ⟨x, List.mem_cons_of_mem _ hx, h⟩
theorem readFrom_at {op : Op} {fr : Fr} {v : AV} {i bi : Nat} : ∀ {h : List (Nat × Nat × St)} {S : St}, readFrom C ex op fr v i bi h S = true → (∀ x ∈ h, x.1 < τ → x.2.1.testBit i = false) →
    (∀ x ∈ h, bi.testBit x.1 = true → x.1 < τ) → h.Pairwise (fun x y => x.1 < y.1) → stAt C ex op fr v (stateAt τ h S) = true
  | [], S, hr, _, _, _ => hr
  | (e, be, S') :: r, S, hr, h1, h2, h3 => by
    simp only [readFrom, Bool.and_eq_true, Bool.or_eq_true] at hr
    obtain ⟨p1, p2⟩ := List.pairwise_cons.1 h3
    show stAt C ex op fr v (if e < τ then stateAt τ r S' else S) = true
    by_cases he : e < τ
    · rw [if_pos he]
      have hb := h1 _ List.mem_cons_self he
      rcases hr.2 with h | h
      · have hb : be.testBit i = false := hb
        rw [hb] at h; cases h
      · exact readFrom_at h (fun x hx => h1 x (List.mem_cons_of_mem _ hx)) (fun x hx => h2 x (List.mem_cons_of_mem _ hx)) p2
    · rw [if_neg he]
      rcases hr.1 with h | h
      · obtain ⟨x, hx, hbx⟩ := anyIn_mem h
        have h4 := h2 x hx hbx
        rcases List.mem_cons.1 hx with rfl | hx
        · exact absurd h4 he
        · have := p1 x hx
          exact absurd h4 (by omega)
      · exact h
theorem TR.sorted (ht : TR C ex ops b fr0 st0 Ds) : ∀ i, i ≤ ops.length → ((Ds i).hist.reverse).Pairwise (fun x y => x.1 < y.1)
  | 0, _ => by rw [ht.start]; exact List.Pairwise.nil
  | i + 1, hi => by
    have ih := ht.sorted i (by omega)
    have hk := ht.hist i (by omega)
    by_cases he : Eff C ops Ds i
    · obtain ⟨o, ho', hw, hk'⟩ := he
      obtain ⟨v, hput, hs⟩ := ht.step i o ho'
      rcases hs with ⟨h1, _⟩ | ⟨_, h1, _⟩ | ⟨_, h1, _⟩ | ⟨_, h1, _⟩ | ⟨_, _, h1, S, h2, hD⟩
      · rw [hw] at h1; cases h1
      · rw [hk'] at h1; cases h1
      · rw [hk'] at h1; cases h1
      · rw [hk'] at h1; cases h1
      · have hh : (Ds (i + 1)).hist = (i, (nth b i).getD 0, S) :: (Ds i).hist := by rw [hD]
        rw [hh, List.reverse_cons, List.pairwise_append]
        refine ⟨ih, List.pairwise_singleton _ _, fun x hx y hy => ?_⟩
        obtain rfl := List.mem_singleton.1 hy
        exact (hk.eff x (List.mem_reverse.1 hx)).1
    · obtain ⟨_, hh, _⟩ := ht.still (by omega) he
      rw [hh]; exact ih

/-! Reads -/
theorem TR.reads_up (ht : TR C ex ops b fr0 st0 Ds) {i : Nat} {x : Nat × Op × Fr × AV} (h : x ∈ (Ds i).reads) : ∀ k, i + k ≤ ops.length → x ∈ (Ds (i + k)).reads
  | 0, _ => h
  | k + 1, hk => by
    have ih := ht.reads_up h k (by omega)
    have ho : ops[i + k]? = some ops[i + k] := by simp
    obtain ⟨v, _, hs⟩ := ht.step (i + k) _ ho
    rw [show i + (k + 1) = i + k + 1 from rfl]
    rcases hs with ⟨_, _, hD⟩ | ⟨_, _, _, hD⟩ | ⟨_, _, _, hD⟩ | ⟨_, _, ob, hal, hD⟩ | ⟨_, _, _, S, _, hD⟩
    · rw [hD]; exact ih
    · rw [hD]; exact ih
    · rw [hD]; exact List.mem_cons_of_mem _ ih
    · rw [hD]; exact ih
    · rw [hD]; exact ih
theorem readsOk_mem {h : List (Nat × Nat × St)} {S0 : St} : ∀ {l : List (Nat × Op × Fr × AV)}, readsOk C ex b h S0 l = true → ∀ {i op fr v}, (i, op, fr, v) ∈ l → readFrom C ex op fr v i ((nth b i).getD 0) h S0 = true
  | (j, op', fr', v') :: l, hr, i, op, fr, v, hm => by
    simp only [readsOk, Bool.and_eq_true] at hr
    rcases List.mem_cons.1 hm with e | hm
    · obtain ⟨rfl, rfl, rfl, rfl⟩ := by simpa using e
      exact hr.1
    · exact readsOk_mem hr.2 hm
theorem Inv.read (hi : Inv C ops b fr0 st0 Ds B0 φ0 w0 a0 L τ φ w a) (ht : TR C ex ops b fr0 st0 Ds) (hd : drawOk C ex b (resv ops.length st0) (Ds ops.length) = true) {i : Nat} {o : Oper} (ho : ops[i]? = some o) (hn : ¬ L i) (hb : ∀ k, bitAt b i k = true → L k)
    {v : AV} {S : St} (hk : opKind C.P o.op = .read) (h : aopO C ex o.op (mkd o (Ds i).fr) (Ds i).st = some (v, S)) (hr : (i, o.op, mkd o (Ds i).fr, v) ∈ (Ds (i + 1)).reads) : aopO C ex o.op (mkd o (Ds i).fr) (Ds τ).st = some (v, (Ds τ).st) := by
  have hlt := (List.getElem?_eq_some_iff.1 ho).1
  unfold drawOk at hd
  have hfin : ∀ T : St, stAt C ex o.op (mkd o (Ds i).fr) v T = true → aopO C ex o.op (mkd o (Ds i).fr) T = some (v, T) := by
    intro T hT
    unfold stAt at hT
    split at hT
    · rename_i u S' hu
      have := still_st (.inr hk) hu
      rw [hu, this, sameV_eq hT]
    · cases hT
  split at hd
  · rename_i hh
    have hno : ∀ e, ¬ Eff C ops Ds e := by
      intro e he
      obtain ⟨o', ho', _⟩ := id he
      have hel := (List.getElem?_eq_some_iff.1 ho').1
      obtain ⟨x, hx, _⟩ := (ht.hist ops.length (Nat.le_refl _)).all e he hel
      rw [hh] at hx; cases hx
    have e1 := (ht.still_to (t := 0) i (by omega) fun e _ _ => hno e).1
    have e2 := (ht.still_to (t := 0) τ (by have := hi.tle; omega) fun e _ _ => hno e).1
    rw [Nat.zero_add] at e1 e2
    rw [e1] at h
    rw [e2]
    have := still_st (.inr hk) h
    rw [this] at h
    exact h
  · have hmem := ht.reads_up hr (ops.length - (i + 1)) (by omega)
    rw [show i + 1 + (ops.length - (i + 1)) = ops.length from by omega] at hmem
    have hrf := readsOk_mem hd hmem
    have hkk := ht.hist ops.length (Nat.le_refl _)
    rw [← ht.stateAt ops.length (Nat.le_refl _) τ hi.tle]
    refine hfin _ (readFrom_at hrf (fun x hx hxt => ?_) (fun x hx hbx => ?_) (ht.sorted ops.length (Nat.le_refl _)))
    · obtain ⟨a1, a2, a3⟩ := hkk.eff x (List.mem_reverse.1 hx)
      cases hbit : x.2.1.testBit i with
      | false => rfl
      | true =>
        rw [a3] at hbit
        exact absurd (hi.cl x.1 i ((hi.tau x.1 a2).2 hxt) hbit) hn
    · obtain ⟨a1, a2, a3⟩ := hkk.eff x (List.mem_reverse.1 hx)
      exact (hi.tau x.1 a2).1 (hb x.1 hbx)
end Go.AE

namespace Go.AE
open Go Go.RowKit

variable {C : Ctx} {ex : Exec} {b : List Nat} {fr0 : Fr} {st0 : St} {Ds : Nat → Draw} {B0 : Nat} {φ0 φ : Emb} {w0 w : World} {a0 a : Act} {L : Nat → Prop} {τ : Nat}

theorem maskOf_on {acc : List Nat} : ∀ {es : List Edge} {e : Edge}, e ∈ es → Region.binds .any e = true → (maskOf acc es).testBit e.on = true
  | x :: es, e, h, hb => by
    simp only [maskOf]
    cases hx : Region.binds .any x with
    | false =>
      simp only [cnd_false]
      rcases List.mem_cons.1 h with rfl | h
      · rw [hb] at hx; cases hx
      · exact maskOf_on h hb
    | true =>
      simp only [cnd_true]
      show Nat.testBit ((2 ^ x.on ||| (nth acc x.on).getD 0) ||| maskOf acc es) e.on = true
      simp only [Nat.testBit_or, Nat.testBit_two_pow, Bool.or_eq_true, decide_eq_true_eq]
      rcases List.mem_cons.1 h with rfl | h
      · exact .inl (.inl rfl)
      · exact .inr (maskOf_on h hb)
theorem bef_on {ops : List Oper} {i : Nat} {o : Oper} (ho : ops[i]? = some o) {e : Edge} (he : e ∈ o.after.toList) (hb : Region.binds .any e = true) : bitAt (bef ops []) i e.on = true := by
  obtain ⟨_, _, h3⟩ := bef_spec ops []
  obtain ⟨a, k1, _⟩ := h3 i o ho
  simp only [List.length_nil, Nat.zero_add] at k1
  unfold bitAt
  rw [nth_eq, k1]
  exact maskOf_on he hb
theorem backOk_spec : ∀ {l : List Nat} {i0 : Nat}, backOk l i0 = true → ∀ (i k : Nat), ((nth l i).getD 0).testBit k = true → k < i0 + i
  | [], _, _, i, k, h => by simp [nth] at h
  | m :: r, i0, hb, i, k, h => by
    simp only [backOk, Bool.and_eq_true, blt_true] at hb
    cases i with
    | zero =>
      have h : m.testBit k = true := h
      have := Nat.ge_two_pow_of_testBit h
      have h5 : 2 ^ k < 2 ^ i0 := Nat.lt_of_le_of_lt this hb.1
      have := (Nat.pow_lt_pow_iff_right (by decide)).1 h5
      omega
    | succ i =>
      have := backOk_spec hb.2 i k h
      omega

/-- One operation, in whatever order. -/
theorem Inv.step {A : Array Oper} (hC : CtxOk C) (hex : ExOk C.P ex) (hi : Inv C A.toList b fr0 st0 Ds B0 φ0 w0 a0 L τ φ w a) (ht : TR C ex A.toList b fr0 st0 Ds) (hok : tmpsOk A.toList b A.toList 0 = true)
    (hd : drawOk C ex b (resv A.toList.length st0) (Ds A.toList.length) = true) {i : Nat} {o : Oper} (ho : A.toList[i]? = some o) (hn : ¬ L i) (hb : ∀ k, bitAt b i k = true → L k) (ro : Option Nat)
    {K : Act → World → Prop} {Q : Exit → Act → World → Prop} (hK : ∀ τ' φ' w' a', Inv C A.toList b fr0 st0 Ds B0 φ0 w0 a0 (fun k => L k ∨ k = i) τ' φ' w' a' → K a' w') : wpOpIn (FW ro) 0 C.P A Q i K a w := by
  have hoA : A[i]? = some o := by simpa using ho
  have hw := wants_at (A := A) (fr := (Ds i).fr) (a := a) o fun t hm => hi.named ht hok ho hn hb (by unfold AE.named; simp [hm])
  unfold wpOpIn
  rw [hoA]
  simp only
  rw [← hw]
  obtain ⟨v, hput, hs⟩ := ht.step i o ho
  rcases hs with ⟨h1, rfl, hD⟩ | ⟨h1, h2, ⟨S, h3⟩, hD⟩ | ⟨h1, h2, ⟨S, h3⟩, hD⟩ | ⟨h1, h2, ob, h3, hD⟩ | ⟨h1, h2, h3, S, h4, hD⟩
  · rw [if_neg (by rw [h1]; simp)]
    refine ⟨fun f _ => FW_fn _ _, ?_⟩
    have hne : ¬ Eff C A.toList Ds i := by
      rintro ⟨o', ho', hw', _⟩
      rw [ho] at ho'
      obtain rfl := Option.some.inj ho'
      rw [h1] at hw'; cases hw'
    have hln := ht.look_none ho (by rw [h1]; simp)
    refine hK τ φ w _ (hi.next ht hok ho hn hb hput ?_ hi.tle ?_ (fun x _ hz => hz) (fun j hj hor => hi.res j hj (hor.imp (fun h k => h (.inl k)) id)) hi.absent hi.nx Rep.undef)
    · rw [← layN_congr st0.next (Ds τ).st A.toList.length fun j _ => fL_add hln j]
      exact PostW.refl hi.post.sim
    · intro e he
      rw [← hi.tau e he]
      exact ⟨fun h => h.elim id fun h => absurd (h ▸ he) hne, .inl⟩
  · rw [if_pos h1]
    have hne : ¬ Eff C A.toList Ds i := by
      rintro ⟨o', ho', _, hk'⟩
      rw [ho] at ho'
      obtain rfl := Option.some.inj ho'
      rw [h2] at hk'; cases hk'
    exact hi.still hC hex ht hok ho hn hb hput hne (ht.look_none ho (by rw [h2]; simp)) (pure_st h2 h3 _) ro hK
  · rw [if_pos h1]
    have hne : ¬ Eff C A.toList Ds i := by
      rintro ⟨o', ho', _, hk'⟩
      rw [ho] at ho'
      obtain rfl := Option.some.inj ho'
      rw [h2] at hk'; cases hk'
    exact hi.still hC hex ht hok ho hn hb hput hne (ht.look_none ho (by rw [h2]; simp)) (hi.read ht hd ho hn hb h2 h3 (by rw [hD]; exact List.mem_cons_self)) ro hK
  · rw [if_pos h1]
    have hne : ¬ Eff C A.toList Ds i := by
      rintro ⟨o', ho', _, hk'⟩
      rw [ho] at ho'
      obtain rfl := Option.some.inj ho'
      rw [h2] at hk'; cases hk'
    have hlt := (List.getElem?_eq_some_iff.1 ho).1
    have hl : look (Ds A.toList.length).al i = some ob := by
      have := ht.look_up (j := i) (i := i + 1) (by omega) (A.toList.length - (i + 1)) (by omega)
      rw [show i + 1 + (A.toList.length - (i + 1)) = A.toList.length from by omega] at this
      rw [this, hD, look, if_pos rfl]
    exact hi.alloc ht hok ho hn hb hput hne h3 hl ro hK
  · rw [if_pos h1]
    have hlt := (List.getElem?_eq_some_iff.1 ho).1
    have heff : Eff C A.toList Ds i := ⟨o, ho, h1, h2⟩
    have hbef : ∀ e, Eff C A.toList Ds e → e < i → L e := by
      intro e he hei
      have hk := ht.hist i (by omega)
      cases hh : (Ds i).hist with
      | nil =>
        obtain ⟨x, hx, _⟩ := hk.all e he hei
        rw [hh] at hx; cases hx
      | cons x r =>
        rw [hh] at h3
        have h3 : ((nth b i).getD 0).testBit x.1 = true := h3
        have hLx := hb x.1 h3
        have hx := hk.eff x (by rw [hh]; exact List.mem_cons_self)
        have h5 := (hi.tau x.1 hx.2.1).1 hLx
        have h6 := hk.head x r hh e he hei
        exact (hi.tau e he).2 (by omega)
    exact hi.effect hC hex ht hok ho hn hb hput heff hbef (ht.look_none ho (by rw [h2]; simp)) h4 (by rw [hD]) (by rw [hD]) ro hK

theorem count_set {l : List Bool} {i : Nat} (h : l[i]? = some false) : (l.set i true).count false + 1 = l.count false := by
  induction l generalizing i with
  | nil => simp at h
  | cons x l ih =>
    cases i with
    | zero =>
      simp only [List.getElem?_cons_zero, Option.some.injEq] at h
      subst h
      simp
    | succ i =>
      simp only [List.getElem?_cons_succ] at h
      have := ih h
      simp only [List.set_cons_succ, List.count_cons]
      omega

theorem wpAny_inv {A : Array Oper} (hC : CtxOk C) (hex : ExOk C.P ex) (hbe : b = bef A.toList []) (ht : TR C ex A.toList b fr0 st0 Ds) (hok : tmpsOk A.toList b A.toList 0 = true) (hbk : backOk b 0 = true)
    (hd : drawOk C ex b (resv A.toList.length st0) (Ds A.toList.length) = true) (ro : Option Nat) {Q : Exit → Act → World → Prop}
    (hQ : ∀ τ φ w a, Inv C A.toList b fr0 st0 Ds B0 φ0 w0 a0 (· < A.toList.length) τ φ w a → Q .normal a w) : ∀ (fuel : Nat) (listed : Array Bool), listed.size = A.size → listed.toList.count false ≤ fuel →
    ∀ (τ : Nat) (φ : Emb) (w : World) (a : Act), Inv C A.toList b fr0 st0 Ds B0 φ0 w0 a0 (fun k => listed.getD k false = true) τ φ w a → wpAnyIn (FW ro) 0 C.P .any A Q fuel listed a w := by
  -- nothing is ready: all have been taken
  have hall : ∀ (listed : Array Bool), listed.size = A.size → Region.ready .any A listed = [] → (fun k => listed.getD k false = true) = (· < A.toList.length) := by
    intro listed hsz hr
    have key : ∀ n, ∀ k, k < n → k < A.size → listed.getD k false = true := by
      intro n
      induction n with
      | zero => intro k hk; omega
      | succ n ih =>
        intro k hk hkA
        by_cases e : k < n
        · exact ih k e hkA
        · obtain rfl : k = n := by omega
          cases hl : listed.getD k false with
          | true => rfl
          | false =>
            exfalso
            have hmem : k ∈ Region.ready .any A listed := by
              rw [mem_ready]
              have hkl : k < listed.size := by omega
              refine ⟨by simpa [Array.getD, hkl] using hl, A[k], by simp [hkA], fun e' he' hb' => ?_⟩
              have hon := bef_on (ops := A.toList) (i := k) (o := A[k]) (by simp [hkA]) (by simpa using he') hb'
              have := backOk_spec hbk k e'.on (by rw [hbe]; exact hon)
              exact ih e'.on (by omega) (by omega)
            rw [hr] at hmem
            cases hmem
    funext k
    apply propext
    constructor
    · intro h
      by_cases hk : k < listed.size
      · simpa [hsz] using hk
      · simp [Array.getD, hk] at h
    · intro h
      exact key (k + 1) k (by omega) (by simpa using h)
  intro fuel
  induction fuel with
  | zero =>
    intro listed hsz hc τ φ w a hi
    have hr : Region.ready .any A listed = [] := by
      rw [List.eq_nil_iff_forall_not_mem]
      intro k hk
      obtain ⟨h1, o, h2, _⟩ := mem_ready.1 hk
      have hkA := (Array.getElem?_eq_some_iff.1 h2).1
      have hkl : k < listed.size := by omega
      have : false ∈ listed.toList := by
        have h3 : listed.toList[k]? = some false := by
          simp only [Array.getElem?_toList, hkl, Array.getElem?_eq_getElem, Option.some.injEq]
          simpa [Array.getD, hkl] using h1
        exact List.mem_of_getElem? h3
      have := List.count_pos_iff.2 this
      omega
    refine ⟨hr, hQ τ φ w a ?_⟩
    rw [← hall listed hsz hr]
    exact hi
  | succ fuel ih =>
    intro listed hsz hc τ φ w a hi
    refine ⟨fun hr => hQ τ φ w a (by rw [← hall listed hsz hr]; exact hi), fun i hmem => ?_⟩
    obtain ⟨h1, o, h2, h3⟩ := mem_ready.1 hmem
    have hiA := (Array.getElem?_eq_some_iff.1 h2).1
    have hil : i < listed.size := by omega
    have ho : A.toList[i]? = some o := by simpa using h2
    have hn : ¬ (listed.getD i false = true) := by
      simp [Array.getD, hil] at h1 ⊢
      exact h1
    refine hi.step hC hex ht hok hd ho hn (fun k hk => ?_) ro fun τ' φ' w' a' hi' => ?_
    · rw [hbe] at hk
      obtain ⟨e, he, hb, h4⟩ := bef_bit ho hk
      have hLe := h3 e (by simpa using he) hb
      rcases h4 with rfl | h4
      · exact hLe
      · exact hi.cl e.on k hLe (by rw [hbe]; exact h4)
    · refine ih _ (by simp [hsz]) ?_ τ' φ' w' a' ?_
      · have h5 : listed.toList[i]? = some false := by
          simp only [Array.getElem?_toList, hil, Array.getElem?_eq_getElem, Option.some.injEq]
          simpa [Array.getD, hil] using h1
        have := count_set h5
        simp only [Array.toList_setIfInBounds]
        omega
      · have : (fun k => (listed.setIfInBounds i true).getD k false = true) = (fun k => listed.getD k false = true ∨ k = i) := by
          funext k
          apply propext
          by_cases e : i = k
          · subst e
            simp [hil]
          · rw [getD_set_ne false e]
            exact ⟨.inl, fun h => h.elim id fun h => absurd h.symm e⟩
        rw [this]
        exact hi'

theorem draw_ok (hC : CtxOk C) (hm : C.P.follows .mixedOrders = true) (hex : ExOk C.P ex) : DrawOk C ex := by
  intro id A fr fr' st st' h B0 m0 φ w a ro Q hs hfr hmk hQ
  simp only [aregionD, cond_eq, Bool.and_eq_true, bnd_eq] at h
  obtain ⟨⟨hok, hbk⟩, D, hrun, hend⟩ := h
  simp only [drawEnd, cnd_eq, Option.some.injEq, Prod.mk.injEq] at hend
  obtain ⟨hd, rfl, rfl⟩ := hend
  obtain ⟨Ds, hD0, hDn, hstep⟩ := trace A.toList 0 _ D hrun
  rw [Nat.zero_add] at hDn
  have ht : TR C ex A.toList (bef A.toList []) fr st Ds := ⟨hD0, fun i o ho => by
    have := hstep i o ho
    rw [Nat.zero_add] at this
    exact dOne_is this⟩
  rw [← hDn] at hd
  refine wpIn_region_any hm ?_
  have hinit := Inv.init ht hs hfr
  refine wpAny_inv (B0 := B0) (φ0 := φ) (w0 := w) (a0 := a) hC hex rfl ht hok hbk hd ro ?_ A.size (Array.replicate A.size false) (by simp) (by simp) 0 (cutOff φ st.next) w.drew a ?_
  · intro τ φ1 w1 a1 hi
    -- all effects are behind us
    obtain ⟨q1, q2, q3⟩ := ht.still_to (t := τ) (A.toList.length - τ) (by have := hi.tle; omega) fun e h1 h2 he => by
      obtain ⟨o, ho, hrest⟩ := _root_.id he
      have := (List.getElem?_eq_some_iff.1 ho).1
      have := (hi.tau e he).1 this
      omega
    rw [show τ + (A.toList.length - τ) = A.toList.length from by have := hi.tle; omega, hDn] at q1 q2 q3
    have hpost := hi.post
    rw [← q1, ← q3, hDn] at hpost
    obtain ⟨a1', a2'⟩ := ht.al A.toList.length (Nat.le_refl _)
    rw [hDn] at a1' a2'
    have hbes := hi.beside ht
    rw [hDn, ← q1, ← q3] at hbes
    have hless : Less (layRest D.laid D.al D.st) (layN st.next (fL D.al D.laid (· < A.toList.length)) A.toList.length D.st) := by
      refine ⟨by rw [layRest_next, layN_next], by rw [layRest_fams, layN_fams], fun c o hc => ?_, fun c o f hc hf => ?_⟩
      · rcases layRest_cases hc with ⟨x, hx, h1, rfl, rfl⟩ | ⟨h1, h2⟩
        · obtain ⟨b1, b2, b3, b4⟩ := a1' x hx
          rw [b2]
          exact layN_at _ _ _ (j := x.1) (fL_some (L := (· < A.toList.length)).2 ⟨b1, h1, b4⟩) _ b1
        · rw [layN_off]
          · exact h2
          · rintro j hj rfl
            cases hfj : fL D.al D.laid (· < A.toList.length) j with
            | none => rfl
            | some y => rw [(hbes j y hj hfj).2] at h2; cases h2
      · have hx : D.st.heap.get c = some o := by
          rcases layN_cases _ _ _ _ hc with ⟨j, hj, rfl, h⟩ | ⟨_, h⟩
          · rw [(hbes j o hj h).1] at hf; cases hf
          · exact h
        cases hg : (layRest D.laid D.al D.st).heap.get c with
        | none =>
          exfalso
          have hne : ∀ x ∈ D.al, D.laid.testBit x.1 = false → c ≠ x.2.1 := by
            rintro x hxm h1 rfl
            obtain ⟨b1, b2, b3, b4⟩ := a1' x hxm
            have := (hbes x.1 x.2.2 b1 (fL_some (L := (· < A.toList.length)).2 ⟨b1, h1, b4⟩)).2
            rw [← b2, hx] at this; cases this
          have : ∀ {al : List (Nat × Nat × AObj)}, (∀ x ∈ al, D.laid.testBit x.1 = false → c ≠ x.2.1) → (layRest D.laid al D.st).heap.get c = D.st.heap.get c := by
            intro al
            induction al with
            | nil => intro _; rfl
            | cons y r ih =>
              intro hal
              obtain ⟨i, id, ob⟩ := y
              have ih := ih fun x hx => hal x (List.mem_cons_of_mem _ hx)
              rw [layRest]
              cases hl : D.laid.testBit i with
              | true => exact ih
              | false =>
                show ((layRest D.laid r D.st).setObj id ob).heap.get c = _
                rw [setObj_get, if_neg (hal _ List.mem_cons_self hl)]
                exact ih
          rw [this hne, hx] at hg; cases hg
        | some y =>
          rcases layRest_cases hg with ⟨x, hx', h1, rfl, rfl⟩ | ⟨h1, h2⟩
          · obtain ⟨b1, b2, b3, b4⟩ := a1' x hx'
            have := (hbes x.1 x.2.2 b1 (fL_some (L := (· < A.toList.length)).2 ⟨b1, h1, b4⟩)).2
            rw [← b2, hx] at this; cases this
          · rw [hx] at h2; exact h2.symm ▸ rfl
    have hp : Post B0 φ st w φ1 (layRest D.laid D.al D.st) w1 := ⟨hpost.trans (Post.drop hpost.sim hless).toPostW, hi.off0⟩
    obtain ⟨f1, f2, f3⟩ := ht.frame A.toList.length (Nat.le_refl _)
    rw [hDn] at f1 f2 f3
    refine hQ φ1 w1 a1 hp ⟨hi.size.trans f1.symm, fun t => ?_⟩ (by rw [hi.ds]; exact hmk.post hp) f2
    obtain ⟨x, hx, hr⟩ := hi.frame t
    rw [← hx.uniq (f3 t), layRest_next, q1]
    exact hr
  · have : (fun k => (Array.replicate A.size false).getD k false = true) = (fun _ : Nat => False) := by
      funext k
      simp [Array.getD]
    rw [this]
    exact hinit
theorem aexec_sound (hC : CtxOk C) (hm : C.P.follows .mixedOrders = true) (n : Nat) : ExOk C.P (aexec C n) := (aexec_ok hC (fun _ h => draw_ok hC hm h) n).1
end Go.AE

namespace Go.AE
open Go Go.RowKit

theorem Sim.below {B0 : Nat} {φ : Emb} {st : St} {w w' : World} (h : Sim B0 φ st w) (hb : Below w.heap.size w w') : Sim B0 φ st w' := by
  have hk : ∀ {b : Nat} {o : AObj}, st.heap.get b = some o → w'.heap[(φ b).blk]? = w.heap[(φ b).blk]? := fun hx => hb.block _ (h.bd _ _ hx)
  refine ⟨h.base, Nat.le_trans h.b0 hb.size, h.famk, h.dom, fun b o hx => Nat.lt_of_lt_of_le (h.bd b o hx) hb.size, h.low, h.inj, fun b o hx hs => by rw [hk hx]; exact h.obj b o hx hs, fun f F hF => ?_, h.on⟩
  obtain ⟨h1, BL, h2⟩ := h.fam f F hF
  refine ⟨h1, BL, h2.live, h2.kind, h2.since, h2.last, h2.ends, fun c e fz hc => h2.froz c e fz ?_⟩
  rw [← hk h2.live]; exact hc
theorem Post.below {B0 : Nat} {φ : Emb} {st : St} {w w' : World} (h : Sim B0 φ st w) (hb : Below w.heap.size w w') : Post B0 φ st w φ st w' :=
  ⟨⟨Agr.refl _ _, Nat.le_refl _, h.below hb, fun r hr _ => hb.block r hr, hb.size, hb.os, hb.tape, hb.output, (PostW.refl h).img⟩, fun _ _ h => h⟩

/-- It bears no address. -/
def Free (v : AV) : Prop := ∀ φ φ', conc φ v = conc φ' v
def FreeL (v : List AV) : Prop := ∀ φ φ', concL φ v = concL φ' v
theorem FreeL.rep {v : List AV} (h : FreeL v) {n m : Nat} {φ φ' : Emb} {us : List Value} (k : RepL n φ v us) : RepL m φ' v us := fun ψ _ => by rw [h ψ φ]; exact k.now
theorem Free.rep {v : AV} (h : Free v) {n m : Nat} {φ φ' : Emb} {u : Value} (k : Rep n φ v u) : Rep m φ' v u := fun ψ _ => by rw [h ψ φ]; exact k.now

/-- The variables that are only read: their cells bear no address. -/
structure Base0 (s0 : St) : Prop where
  next : s0.next = 64
  fams : ∀ f, s0.fams.get f = none
  ro : ∀ b o, s0.heap.get b = some o → b < 64 ∧ ∃ B, o = .cells B ∧ B.k = .ro ∧ ∀ i l, B.t.get i = some l → ∀ a ∈ l, Free a
/-- The state knows these variables. -/
def Knows (s0 st : St) : Prop := ∀ b o, s0.heap.get b = some o → st.heap.get b = some o
theorem Base0.sim {s0 st : St} (h : Base0 s0) (hk : Knows s0 st) {B0 : Nat} {φ : Emb} {w : World} (hs : Sim B0 φ st w) : Sim w.heap.size φ s0 w := by
  have hle := hs.base.le
  refine ⟨⟨by rw [h.next]; exact Nat.le_refl _, hs.base.id, hs.base.on⟩, Nat.le_refl _, ?_, ?_, ?_, ?_, ?_, ?_, ?_, ?_⟩
  · intro b o f hb hf
    obtain ⟨_, B, rfl, hB, _⟩ := h.ro b o hb
    simp [AObj.fam, hB] at hf
  · intro b o hb
    rw [h.next]
    exact (h.ro b o hb).1
  · exact fun b o hb => hs.bd b o (hk b o hb)
  · intro b o hb hw
    obtain ⟨_, B, rfl, hB, _⟩ := h.ro b o hb
    simp [AObj.wr, hB] at hw
  · exact fun b b' o o' hb hb' he => hs.inj b b' o o' (hk b o hb) (hk b' o' hb') he
  · intro b o hb _
    obtain ⟨hlt, B, rfl, hB, hfr⟩ := h.ro b o hb
    obtain ⟨c, fz, h1, h2, h3, h4, h5⟩ := hs.obj b _ (hk b _ hb) (fun f hf => by simp [AObj.fam, hB] at hf)
    refine ⟨c, fz, h1, h2, h3, fun i hi => ?_, h5⟩
    obtain ⟨l, l1, l2, l3⟩ := h4 i hi
    refine ⟨l, l1, l2, fun r a hr => ?_⟩
    obtain ⟨u, u1, u2⟩ := l3 r a hr
    exact ⟨u, u1, (hfr i l l1 a (List.mem_of_getElem? hr)).rep u2⟩
  · intro f F hF
    rw [h.fams] at hF; cases hF
  · exact fun b o hb => hs.on b o (hk b o hb)

/-- A call whose answer bears no address leaves the state, wherever it is made. -/
theorem pure_sum {C : Ctx} (hC : CtxOk C) (hm : C.P.follows .mixedOrders = true) {f : FuncId} {fn : Func} {c : Code} (hf : C.P.funcs[f]? = some fn) (hb : fn.body = some c) {args : List AV} {v : AV} (ha : FreeL args) (hv : Free v)
    {s0 s1 : St} (h0 : Base0 s0) {n : Nat} (h : acallN C n f args s0 = some (v, s1)) {st : St} (hk : Knows s0 st) : SumOk C.P f args st v st := by
  refine ⟨⟨fn, c, hf, hb⟩, fun B0 φ w us R hs hr hR => ?_⟩
  have hs0 := h0.sim hk hs
  have hex := aexec_sound hC hm n
  have fin : ∀ φ' w' u, Post w.heap.size φ s0 w φ' s1 w' → Rep s1.next φ' v u → R (.returned u) w' := by
    intro φ' w' u hp hu
    have hbe : Below w.heap.size w w' := ⟨hp.os, hp.tape, hp.output, hp.size, fun k hk => hp.keep k hk fun b o hb hw he => by
      obtain ⟨_, B, rfl, hB, _⟩ := h0.ro b o hb
      simp [AObj.wr, hB] at hw⟩
    exact hR φ w' u (Post.below hs hbe) (hv.rep hu)
  have hr0 : RepL s0.next φ args us := ha.rep hr
  unfold acallN acall at h
  split at h
  · rename_i r hsum
    obtain rfl := Option.some.inj h
    exact (hC.sum f args _ _ _ hsum).2 _ φ w us R hs0 hr0 fin
  · simp only [bnd_eq, nth_eq] at h
    obtain ⟨fn', hf', h⟩ := h
    have hf'' : C.P.funcs[f]? = some fn' := by simpa using hf'
    obtain rfl := Option.some.inj (hf.symm.trans hf'')
    unfold callF at h
    rw [hb] at h
    exact enter_ok hex hf hb h hs0 hr0 fin
end Go.AE
