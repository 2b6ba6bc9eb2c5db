/- The abstract evaluator: code, calls, regions that draw their order, the first half. -/
import Derived.Test.YtjnahfpnehmehaaGreatDoorAeD
import Derived.RangeFuncLeaves
import Derived.RangeFuncCalls
import Derived.RangeFuncRecord
import Derived.OrdersIn
namespace Go.AE
open Go Go.RowKit

variable {P : Program} {φ : Emb} {w : World} {B0 : Nat} {st : St}

/-- No abstract block stands there. -/
def Off (φ : Emb) (st : St) (r : Nat) : Prop := ∀ b o, st.heap.get b = some o → (φ b).blk ≠ r
theorem Sim.other (h : Sim B0 φ st w) {w' : World} (hsz : w.heap.size ≤ w'.heap.size) (hk : ∀ r, r < w.heap.size → (∃ b o, st.heap.get b = some o ∧ (φ b).blk = r) → w'.heap[r]? = w.heap[r]?) : Sim B0 φ st w' := by
  have hb : ∀ b o, st.heap.get b = some o → w'.heap[(φ b).blk]? = w.heap[(φ b).blk]? := fun b o hb => hk _ (h.bd b o hb) ⟨b, o, hb, rfl⟩
  refine ⟨h.base, Nat.le_trans h.b0 hsz, h.famk, h.dom, fun b o hb => Nat.lt_of_lt_of_le (h.bd b o hb) hsz, h.low, h.inj, fun b o hg hs => ?_, fun f F hf => ?_, h.on⟩
  · rw [hb b o hg]; exact h.obj b o hg hs
  · obtain ⟨h1, BL, k⟩ := h.fam f F hf
    refine ⟨h1, BL, k.live, k.kind, k.since, k.last, k.ends, fun c e fz hc => ?_⟩
    rw [hb _ _ k.live] at hc
    exact k.froz c e fz hc
/-- What is none of the abstract state's is laid. -/
theorem Post.lay (h : Sim B0 φ st w) {w' : World} {O : Obj} (hh : w'.heap = w.heap.push O) (h1 : w'.os = w.os) (h2 : w'.tape = w.tape) (h3 : w'.output = w.output) : Post B0 φ st w φ st w' := by
  have hsz : w.heap.size ≤ w'.heap.size := by rw [hh]; simp
  have hold : ∀ r, r < w.heap.size → w'.heap[r]? = w.heap[r]? := by
    intro r hr
    rw [hh, Array.getElem?_push, if_neg (by omega)]
  refine ⟨⟨Agr.refl _ _, Nat.le_refl _, h.other hsz fun r hr _ => hold r hr, fun r hr _ => hold r hr, hsz, h1, h2, h3, fun b o hb => ⟨fun hw => .inl ⟨o, hb, hw⟩, fun h4 => absurd (h.old b o hb) h4, fun _ => ⟨o, hb⟩⟩⟩, fun _ _ h => h⟩
/-- A block of the call's own, none of the abstract state's, is changed. -/
theorem Post.then_other {φ' : Emb} {st' : St} {w0 : World} (h : Post B0 φ st w0 φ' st' w) {r : Nat} {O : Obj} (hr : w0.heap.size ≤ r) (hoff : Off φ' st' r) : Post B0 φ st w0 φ' st' (setBlk w r O) := by
  have hk : ∀ x, x ≠ r → (setBlk w r O).heap[x]? = w.heap[x]? := by
    intro x hx
    rw [setBlk_get, if_neg (by rintro ⟨h, _⟩; exact hx h)]
  refine ⟨⟨h.agr, h.nx, h.sim.other (by rw [setBlk_size]; exact Nat.le_refl _) fun x _ ⟨b, o, hb, he⟩ => hk x fun e => hoff b o hb (he.trans e), fun x hx hno => ?_, by rw [setBlk_size]; exact h.size, h.os, h.tape, h.output, h.img⟩, h.off⟩
  rw [hk x (by omega), h.keep x hx hno]

/-- The deferred calls are marks alone, of blocks that hold nothing yet. -/
def Marks (m0 : Nat) (φ : Emb) (st : St) (w : World) (ds : List Deferred) : Prop :=
  ∃ rs : List Nat, ds = rs.map (fun r => { target := .collected r, args := #[] }) ∧ rs.Nodup ∧ ∀ r ∈ rs, m0 ≤ r ∧ w.heap[r]? = some (.deferred (some [])) ∧ Off φ st r
theorem Marks.nil {m0 : Nat} : Marks m0 φ st w [] := ⟨[], rfl, List.nodup_nil, fun _ h => by cases h⟩
theorem Marks.post {m0 : Nat} {ds : List Deferred} (h : Marks m0 φ st w ds) {φ' : Emb} {st' : St} {w' : World} (hp : Post B0 φ st w φ' st' w') : Marks m0 φ' st' w' ds := by
  obtain ⟨rs, rfl, hn, hr⟩ := h
  refine ⟨rs, rfl, hn, fun r hmem => ?_⟩
  obtain ⟨h1, h2, h3⟩ := hr r hmem
  have hlt : r < w.heap.size := (Array.getElem?_eq_some_iff.1 h2).1
  refine ⟨h1, by rw [hp.keep r hlt fun b o hb _ => h3 b o hb, h2], fun b o hb he => ?_⟩
  obtain ⟨_, i2, i3⟩ := hp.img b o hb
  by_cases hbn : Old φ st b
  · obtain ⟨o0, h0⟩ := i3 hbn
    rw [hp.agr b hbn.1 hbn.2] at he
    exact h3 b o0 h0 he
  · rcases i2 hbn with h4 | ⟨b0, o0, h0, _, he0⟩
    · omega
    · exact h3 b0 o0 h0 (he0.trans he)

/-! A function's frame -/
theorem args0_get : ∀ (vs : List AV) (i : Nat) (t : T AV) (j : Nat), (args0 vs i t).get j = if i ≤ j ∧ j < i + vs.length then vs[j - i]? else t.get j
  | [], i, t, j => by rw [args0, if_neg (by simp)]
  | a :: r, i, t, j => by
    rw [args0, args0_get r]
    simp only [List.length_cons]
    by_cases h1 : Nat.succ i ≤ j ∧ j < Nat.succ i + r.length
    · rw [if_pos h1, if_pos (by omega)]
      obtain ⟨k, rfl⟩ : ∃ k, j = i + 1 + k := ⟨j - (i + 1), by omega⟩
      rw [show i + 1 + k - Nat.succ i = k from by omega, show i + 1 + k - i = k + 1 from by omega]; simp
    · rw [if_neg h1, T.get_set]
      by_cases h2 : j = i
      · subst h2; rw [if_pos rfl, if_pos (by omega)]; simp
      · rw [if_neg h2, if_neg (by omega)]
theorem entered {n nt : Nat} {args : List AV} {us : List Value} (hr : RepL n φ args us) (hle : args.length ≤ nt) (rd : Option Nat) :
    FrR n φ ⟨nt, args0 args 0 .nil, rd⟩ { tmps := us.toArray ++ Array.replicate (nt - us.toArray.size) undef, defers := [] } := by
  have hl := hr.length
  refine ⟨by simp; omega, fun t => ?_⟩
  simp only [Fr.get]
  rw [args0_get]
  simp only [Nat.zero_le, true_and, Nat.zero_add, Nat.sub_zero]
  by_cases h : t < args.length
  · rw [if_pos h]
    obtain ⟨x, hx, rx⟩ := hr.get (i := t) (a := args[t]) (by simp [h])
    have hlt : t < us.length := by omega
    have e1 : (us.toArray ++ Array.replicate (nt - us.toArray.size) undef).getD t undef = x := by
      rw [Array.getD_eq_getD_getElem?, Array.getElem?_append_left (by simpa using hlt)]
      simp [hx]
    rw [e1]
    simpa [h] using rx
  · rw [if_neg h]
    have e1 : (us.toArray ++ Array.replicate (nt - us.toArray.size) undef).getD t undef = undef := by
      rw [Array.getD_eq_getD_getElem?, Array.getElem?_append_right (by simp; omega)]
      simp only [List.size_toArray, Array.getElem?_replicate]
      split <;> rfl
    rw [e1]
    have : (T.nil : T AV).get t = none := by simp [T.get]
    rw [this]
    exact Rep.undef
theorem aresults_ok (hs : Sim B0 φ st w) {fr : Fr} {a : Act} (hfr : FrR st.next φ fr a) : ∀ {rs : List ResultVar} {vs : List AV}, aresults P fr st rs = some vs → ∃ us : List Value, RepL st.next φ vs us ∧
    ∀ g : ResultVar → Sem Value, (∀ t, g (.tmp t) = pure (a.tmps.getD t undef)) → (∀ x t, g (.cell x t) = (do Go.loadVar t (← asAddr (a.tmps.getD x undef)))) → (rs.mapM g).run P w = .ok us w
  | [], vs, h => by
    simp only [aresults, Option.some.injEq] at h; subst h
    exact ⟨[], RepL.nil, fun g _ _ => by simp⟩
  | .tmp t :: r, vs, h => by
    simp only [aresults, bnd_eq, Option.some.injEq] at h
    obtain ⟨vs', h1, rfl⟩ := h
    obtain ⟨us, h2, h3⟩ := aresults_ok hs hfr h1
    exact ⟨_, RepL.cons (hfr.val t) h2, fun g g1 g2 => by simp only [List.mapM_cons, g1, Sem.run_bind, Sem.run_pure, h3 g g1 g2, Result.andThen_ok]⟩
  | .cell x t :: r, vs, h => by
    simp only [aresults] at h
    split at h
    · rename_i b off hp
      simp only [bnd_eq, Option.some.injEq] at h
      obtain ⟨v, hv, vs', h1, rfl⟩ := h
      obtain ⟨us, h2, h3⟩ := aresults_ok hs hfr h1
      obtain ⟨u, h4, h5⟩ := loadVar_ok (P := P) hs hv
      have hpx := hfr.val x
      rw [hp] at hpx
      have ha : (asAddr (a.tmps.getD x undef)).run P w = .ok (caddr φ b off) w := by rw [hpx.ptr_inv]; rfl
      exact ⟨_, RepL.cons h5 h2, fun g g1 g2 => by simp only [List.mapM_cons, g2, Sem.run_bind, Sem.run_pure, ha, h4, h3 g g1 g2, Result.andThen_ok]⟩
    · cases h
theorem results_ok (hs : Sim B0 φ st w) {fr : Fr} {a : Act} (hfr : FrR st.next φ fr a) {fn : Func} {vs : List AV} (h : aresults P fr st fn.results.toList = some vs) : ∃ u, (results fn a.tmps).run P w = .ok u w ∧ Rep st.next φ (one vs) u := by
  obtain ⟨us, h1, h2⟩ := aresults_ok (P := P) hs hfr h
  have hl := h1.length
  refine ⟨if h : us.toArray.size = 1 then us.toArray[0] else .tuple us.toArray, ?_, ?_⟩
  · unfold results
    rw [Sem.run_bind, Array.mapM_eq_mapM_toList]
    simp only [map_eq_pure_bind, Sem.run_bind]
    rw [h2 _ (fun _ => rfl) (fun _ _ => rfl)]
    rfl
  · match vs, us, h1, hl with
    | [], [], h1, _ => exact Rep.tup h1
    | [v], [u], h1, _ =>
      obtain ⟨x, hx, rx⟩ := h1.get (i := 0) rfl
      simp at hx; subst hx
      simpa [one] using rx
    | v :: v' :: vs, u :: u' :: us, h1, _ =>
      have : ¬ (u :: u' :: us).toArray.size = 1 := by simp
      rw [dif_neg this]
      exact Rep.tup h1

/-- A function leaves: the marks are taken, the results read. -/
theorem leaves_ok {F : Fence} {fn : Func} {m0 : Nat} {w0 : World} {φ0 : Emb} {st0 : St} (hm0 : w0.heap.size ≤ m0) {fr : Fr} {R : Ending → World → Prop} {vs : List AV} (tmps : Array Value) (n : Nat) :
    ∀ (rs : List Nat) (w : World), Post B0 φ0 st0 w0 φ st w → FrR st.next φ fr ⟨tmps, []⟩ → aresults P fr st fn.results.toList = some vs →
    rs.Nodup → (∀ r ∈ rs, m0 ≤ r ∧ w.heap[r]? = some (.deferred (some [])) ∧ Off φ st r) →
    (∀ w' u, Post B0 φ0 st0 w0 φ st w' → Rep st.next φ (one vs) u → R (.returned u) w') →
    LeavesInM F n P fn tmps R (rs.map fun r => { target := .collected r, args := #[] }) .returning w
  | [], w, hp, hfr, hvs, _, _, hR => by
    obtain ⟨u, h1, h2⟩ := results_ok (P := P) hp.sim hfr hvs
    exact ⟨u, h1, hR w u hp h2⟩
  | r :: rs, w, hp, hfr, hvs, hnd, hr, hR => by
    obtain ⟨h1, h2, h3⟩ := hr r (by simp)
    refine ⟨by simp, .inl ⟨r, setBlk w r (.deferred none), rfl, ?_, ?_⟩⟩
    · simp only [Instr.takeDeferred, Sem.run_bind, run_getObj h2 (by simp), Result.andThen_ok, run_setObj h2 (by simp), Sem.run_pure]
    · obtain ⟨hnot, hnd'⟩ := List.nodup_cons.1 hnd
      refine leaves_ok hm0 tmps n rs _ (hp.then_other (by omega) h3) hfr hvs hnd' (fun x hx => ?_) hR
      obtain ⟨k1, k2, k3⟩ := hr x (by simp [hx])
      refine ⟨k1, ?_, k3⟩
      rw [setBlk_get, if_neg (by rintro ⟨rfl, _⟩; exact hnot hx), k2]
end Go.AE

namespace Go.AE
open Go Go.RowKit

variable {P : Program} {φ : Emb} {w : World} {B0 : Nat} {st : St}

def FW : Option Nat → Fence
  | none => Fence.wide
  | some l => Fence.wide.inRound l
theorem FW_fn (ro : Option Nat) (f : FuncId) : (FW ro).fn f := by cases ro <;> trivial
theorem FW_depth (ro : Option Nat) : (FW ro).depth = none := by cases ro <;> rfl
theorem FW_round (ro : Option Nat) : (FW ro).round = ro := by cases ro <;> rfl
theorem FW_in (ro : Option Nat) (l : Nat) : (FW ro).inRound l = FW (some l) := by cases ro <;> rfl
theorem FW_calls {ro : Option Nat} {n : Nat} {f : FuncId} {args : Array Value} {R : Ending → World → Prop} (h : CallsIn Fence.wide n P f args w R) : CallsIn (FW ro) n P f args w R := by
  cases ro with
  | none => exact h
  | some l => exact CallsIn.inRound l h

def exitOf : Ex → Exit
  | .normal => .normal
  | .exit i => .exit i
  | .ret => .ret

/-- What is meant by a sound evaluator of code. -/
def ExOk (P : Program) (ex : Exec) : Prop :=
  ∀ (c : Code) (fr : Fr) (st : St) (e : Ex) (fr' : Fr) (st' : St), ex c fr st = some (e, fr', st') → ∀ (B0 m0 : Nat) (φ : Emb) (w : World) (a : Act) (ro : Option Nat) (Q : Exit → Act → World → Prop),
    Sim B0 φ st w → FrR st.next φ fr a → (fr.rd = none → ro = none) → m0 ≤ w.heap.size → Marks m0 φ st w a.defers →
    (∀ φ' w' a', Post B0 φ st w φ' st' w' → FrR st'.next φ' fr' a' → Marks m0 φ' st' w' a'.defers → fr'.rd = fr.rd → Q (exitOf e) a' w') →
    c.wpIn (FW ro) 0 P Q a w
/-- A call of f comes to v, and leaves st'. -/
def SumOk (P : Program) (f : FuncId) (args : List AV) (st : St) (v : AV) (st' : St) : Prop :=
  (∃ fn c, P.funcs[f]? = some fn ∧ fn.body = some c) ∧ ∀ (B0 : Nat) (φ : Emb) (w : World) (us : List Value) (R : Ending → World → Prop), Sim B0 φ st w → RepL st.next φ args us →
    (∀ φ' w' u, Post B0 φ st w φ' st' w' → Rep st'.next φ' v u → R (.returned u) w') → CallsIn Fence.wide 0 P f us.toArray w R
/-- What is asked of the program and of the tables that stand beside it. -/
structure CtxOk (C : Ctx) : Prop where
  noNum : ∀ (f : FuncId) (fn : Func), C.P.funcs[f]? = some fn → (fn.name == "runtime.NumGoroutine") = false
  ext : ∀ (f : FuncId) (fn : Func), C.P.funcs[f]? = some fn → fn.body = none → C.ext f ≠ .none → Extern.findNext fn = none ∧ ∃ e, Extern.find fn = some e ∧ ExtSem fn (C.ext f) e
  sum : ∀ f args st v st', C.sum f args st = some (v, st') → SumOk C.P f args st v st'

theorem enter_ok {ex : Exec} (hex : ExOk P ex) {f : FuncId} {fn : Func} {c : Code} (hf : P.funcs[f]? = some fn) (hb : fn.body = some c) {args : List AV} {us : List Value} {v : AV} {st' : St}
    (h : enter P ex fn c args st = some (v, st')) (hs : Sim B0 φ st w) (hr : RepL st.next φ args us) {R : Ending → World → Prop}
    (hR : ∀ φ' w' u, Post B0 φ st w φ' st' w' → Rep st'.next φ' v u → R (.returned u) w') : CallsIn Fence.wide 0 P f us.toArray w R := by
  simp only [enter, cnd_eq, ble_true, bnd_eq] at h
  obtain ⟨hle, ⟨e, fr, st1⟩, hx, h⟩ := h
  refine callsIn_of_wp_marks hf hb trivial (hex c _ _ e fr st1 hx B0 w.heap.size φ w _ none _ hs (entered hr hle none) (fun _ => rfl) (Nat.le_refl _) Marks.nil ?_)
  intro φ' w' a' hp hfr hm _
  have fin : ∀ {vs : List AV}, aresults P fr st1 fn.results.toList = some vs → v = one vs → st' = st1 → LeavesInM Fence.wide 0 P fn a'.tmps R a'.defers .returning w' := by
    rintro vs hvs rfl rfl
    obtain ⟨rs, hds, hnd, hrs⟩ := hm
    rw [hds]
    exact leaves_ok (Nat.le_refl _) a'.tmps 0 rs w' hp ⟨hfr.size, hfr.val⟩ hvs hnd hrs (fun w'' u h1 h2 => hR φ' w'' u h1 h2)
  cases e with
  | normal =>
    simp only [left, bnd_eq, Option.some.injEq, Prod.mk.injEq] at h
    obtain ⟨vs, hvs, h1, h2⟩ := h
    exact fin hvs h1.symm h2.symm
  | ret =>
    simp only [left, bnd_eq, Option.some.injEq, Prod.mk.injEq] at h
    obtain ⟨vs, hvs, h1, h2⟩ := h
    exact fin hvs h1.symm h2.symm
  | exit i => simp [left] at h
theorem acallB_ok {ex : Exec} (hex : ExOk P ex) {f : FuncId} {args : List AV} {us : List Value} {v : AV} {st' : St}
    (h : acallB P ex f args st = some (v, st')) (hs : Sim B0 φ st w) (hr : RepL st.next φ args us) {R : Ending → World → Prop}
    (hR : ∀ φ' w' u, Post B0 φ st w φ' st' w' → Rep st'.next φ' v u → R (.returned u) w') : (∃ fn c, P.funcs[f]? = some fn ∧ fn.body = some c) ∧ CallsIn Fence.wide 0 P f us.toArray w R := by
  simp only [acallB, bnd_eq, nth_eq] at h
  obtain ⟨fn, hf, h⟩ := h
  have hf' : P.funcs[f]? = some fn := by simpa using hf
  split at h
  · cases h
  · rename_i c hb
    exact ⟨⟨fn, c, hf', hb⟩, enter_ok hex hf' hb h hs hr hR⟩

/-- What a call comes to: a call into a function with a body, or a value at once. -/
theorem acall_ok {C : Ctx} (hC : CtxOk C) {ex : Exec} (hex : ExOk C.P ex) {f : FuncId} {args : List AV} {us : List Value} {v : AV} {st' : St}
    (h : acall C ex f args st = some (v, st')) (hs : Sim B0 φ st w) (hr : RepL st.next φ args us) {R : Value → World → Prop}
    (hR : ∀ φ' w' u, Post B0 φ st w φ' st' w' → Rep st'.next φ' v u → R u w') :
    ((callFunc f us.toArray).run C.P w = .ok (.enter f us.toArray) w ∧ CallsIn Fence.wide 0 C.P f us.toArray w fun e w' => ∃ u, e = .returned u ∧ R u w') ∨
    (∃ u w', (callFunc f us.toArray).run C.P w = .ok (.value u) w' ∧ R u w') := by
  have hpr : ∀ w : World, (program : Sem Program).run C.P w = .ok C.P w := fun _ => rfl
  have body : ∀ {fn : Func} {c : Code}, C.P.funcs[f]? = some fn → fn.body = some c → (callFunc f us.toArray).run C.P w = .ok (.enter f us.toArray) w := by
    intro fn c hf hb
    simp only [callFunc, Sem.run_bind, hpr, Result.andThen_ok, hf, hC.noNum f fn hf, hb, Option.isNone_some, Bool.false_eq_true, if_false, Sem.run_pure]
  unfold acall at h
  split at h
  · rename_i r hsum
    obtain rfl := Option.some.inj h
    obtain ⟨⟨fn, c, hf, hb⟩, hcall⟩ := hC.sum f args _ _ _ hsum
    exact .inl ⟨body hf hb, hcall B0 φ w us _ hs hr fun φ' w' u hp hu => ⟨u, rfl, hR φ' w' u hp hu⟩⟩
  · simp only [bnd_eq, nth_eq] at h
    obtain ⟨fn, hf, h⟩ := h
    have hf' : C.P.funcs[f]? = some fn := by simpa using hf
    unfold callF at h
    split at h
    · rename_i hb
      right
      have hne : C.ext f ≠ .none := by
        intro he
        rw [he] at h
        simp [extern] at h
      obtain ⟨hfn, e, hfe, hsem⟩ := hC.ext f fn hf' hb hne
      obtain ⟨φ', w', u, h1, h2, h3⟩ := extern_ok hs h hr hsem
      refine ⟨u, w', ?_, hR φ' w' u h2 h3⟩
      simp only [callFunc, Sem.run_bind, hpr, Result.andThen_ok, hf', hC.noNum f fn hf', hb, Option.isNone_none, if_true, Bool.false_eq_true, if_false, run_mark, hfn, hfe, h1, Sem.run_pure]
    · rename_i c hb
      exact .inl ⟨body hf' hb, enter_ok hex hf' hb h hs hr fun φ' w' u hp hu => ⟨u, rfl, hR φ' w' u hp hu⟩⟩

/-! A loop's record -/
theorem Sim.loop (hs : Sim B0 φ st w) {l : Nat} {state : LoopState} {pend : Option Code} {fr : Fr} {ps : List Tmp} {assign body : Code} (h : st.heap.get l = some (.loop state pend fr ps assign body)) :
    ∃ fn tmps defs, w.heap[(φ l).blk]? = some (.loop { state := state, pending := pend, fn, tmps, params := ps.toArray, assign, body, defers := defs }) ∧ FrR st.next φ fr ⟨tmps, []⟩ :=
  hs.obj _ _ h (by intro f hf; cases hf)
theorem Post.loop (hs : Sim B0 φ st w) {l : Nat} {state state' : LoopState} {pend pend' : Option Code} {fr : Fr} {ps : List Tmp} {assign body : Code} (h : st.heap.get l = some (.loop state pend fr ps assign body))
    {fn : FuncId} {tmps : Array Value} {defs : Nat} (hfr : FrR st.next φ fr ⟨tmps, []⟩) :
    Post B0 φ st w φ (st.setObj l (.loop state' pend' fr ps assign body)) (setBlk w (φ l).blk (.loop { state := state', pending := pend', fn, tmps, params := ps.toArray, assign, body, defers := defs })) := by
  obtain ⟨hp, fams, nx⟩ := st
  exact Post.change hs h rfl rfl rfl rfl rfl rfl (.inl ⟨rfl, rfl⟩) ⟨fn, tmps, defs, rfl, hfr⟩
theorem setObj_next (st : St) (b : Nat) (o : AObj) : (st.setObj b o).next = st.next := by cases st; rfl
theorem setLoop_ok (hs : Sim B0 φ st w) {l : Nat} {state : LoopState} {pend : Option Code} {st' : St} (h : setLoop st l state pend = some st') :
    ∃ r : Loop, w.heap[(φ l).blk]? = some (.loop r) ∧ Post B0 φ st w φ st' (setBlk w (φ l).blk (.loop { r with state := state, pending := pend })) ∧ st'.next = st.next := by
  unfold setLoop at h
  split at h
  · rename_i s0 p0 fr ps assign body hl
    obtain rfl := Option.some.inj h
    obtain ⟨fn, tmps, defs, h1, h2⟩ := hs.loop hl
    exact ⟨_, h1, Post.loop hs hl h2, setObj_next _ _ _⟩
  · cases h
theorem setParams_ok {n : Nat} : ∀ {ps : List Tmp} {args : List AV} {fr fr' : Fr} {us : List Value} {tmps : Array Value} {ds : List Deferred}, setParams ps args fr = some fr' → RepL n φ args us → FrR n φ fr ⟨tmps, ds⟩ →
    us.length = ps.length ∧ FrR n φ fr' ⟨(ps.zip us).foldl (fun tmps (t, a) => tmps.setIfInBounds t a) tmps, ds⟩ ∧ fr'.rd = fr.rd
  | [], [], fr, fr', us, tmps, ds, h, hr, hfr => by
    simp only [setParams, Option.some.injEq] at h; subst h
    have : us = [] := by have := hr.length; simpa using this
    subst this
    exact ⟨rfl, hfr, rfl⟩
  | p :: ps, a :: args, fr, fr', us, tmps, ds, h, hr, hfr => by
    simp only [setParams, bnd_eq] at h
    obtain ⟨fr1, h1, h2⟩ := h
    cases us with
    | nil => have := hr.length; simp at this
    | cons u us =>
      obtain ⟨x, hx, rx⟩ := hr.get (i := 0) rfl
      simp at hx; subst hx
      obtain ⟨k1, k2, k3⟩ := hfr.put h1 rx
      obtain ⟨m1, m2, m3⟩ := setParams_ok (ds := ds) (tmps := tmps.setIfInBounds p u) h2 (by simpa using hr.drop 1) k1
      exact ⟨by simp [m1], m2, m3.trans k2⟩
  | [], _ :: _, _, _, _, _, _, h, _, _ => by simp [setParams] at h
  | _ :: _, [], _, _, _, _, _, h, _, _ => by simp [setParams] at h
end Go.AE

namespace Go.AE
open Go Go.RowKit

variable {P : Program} {φ : Emb} {w : World} {B0 : Nat} {st : St}

theorem round_ok {ex : Exec} (hex : ExOk P ex) {l : Nat} {args : List AV} {us : List Value} {v : AV} {st' : St} (h : around ex l args st = some (v, st')) (hs : Sim B0 φ st w) (hr : RepL st.next φ args us) (ro : Option Nat)
    {R : Ending → World → Prop} (hR : ∀ φ' w' u, Post B0 φ st w φ' st' w' → Rep st'.next φ' v u → R (.returned u) w') :
    ∃ f tmps assign body, (Instr.yield (φ l).blk us.toArray).run P w = .ok (.round (φ l).blk f tmps assign body) w ∧ RoundIn (FW ro) 0 P (φ l).blk f tmps assign body w R := by
  unfold around at h
  split at h
  · rename_i s0 p0 fr ps assign body hl
    simp only [bnd_eq] at h
    obtain ⟨fr0, hps, ⟨e, fr1, st1⟩, hx, h⟩ := h
    obtain ⟨fn, tmps, defs, hO, hfr⟩ := hs.loop hl
    have hfr' : FrR st.next φ ⟨fr.nt, fr.t, some l⟩ ⟨tmps, []⟩ := ⟨hfr.size, hfr.val⟩
    obtain ⟨hlen, hfr0, hrd⟩ := setParams_ok hps hr hfr'
    have hlt := hs.dom l _ hl
    have hfold : ∀ (ps : List Tmp) (us : List Value) (t : Array Value), (ps.toArray.zip us.toArray).foldl (fun tmps (x : Tmp × Value) => tmps.setIfInBounds x.1 x.2) t = (ps.zip us).foldl (fun tmps (x : Tmp × Value) => tmps.setIfInBounds x.1 x.2) t := by
      intro ps us t
      rw [List.zip_toArray, List.foldl_toArray]
    refine ⟨fn, (ps.zip us).foldl (fun tmps (x : Tmp × Value) => tmps.setIfInBounds x.1 x.2) tmps, assign, body, ?_, ?_⟩
    · have hne : ¬ us.toArray.size ≠ ps.toArray.size := by simp [hlen]
      simp only [Instr.yield, Sem.run_bind, run_getLoop hO, Result.andThen_ok, if_neg hne, Sem.run_pure]
      rw [← hfold]
    · refine roundIn_of_wpIn (FW_fn _ _) ?_
      rw [FW_in]
      refine hex assign fr0 st e fr1 st1 hx B0 w.heap.size φ w _ (some (φ l).blk) _ hs hfr0 (fun hn => by rw [hrd] at hn; cases hn) (Nat.le_refl _) Marks.nil ?_
      intro φ1 w1 a1 hp1 hfr1 hm1 hrd1
      cases e with
      | normal =>
        simp only [roundBody] at h
        split at h
        · rename_i pend frr ps1 assign1 body1 hl1
          simp only [bnd_eq] at h
          obtain ⟨⟨e2, fr2, st2⟩, hx2, h⟩ := h
          obtain ⟨fn1, tmps1, defs1, hO1, hfrr⟩ := hp1.sim.loop hl1
          have hblk : (φ1 l).blk = (φ l).blk := by rw [hp1.agr l hlt (hs.on l _ hl)]
          have hpb := Post.loop (state' := .busy) (pend' := pend) (fn := fn1) (tmps := tmps1) (defs := defs1) hp1.sim hl1 hfrr
          refine ⟨setBlk w1 (φ l).blk (.loop { state := .busy, pending := pend, fn := fn1, tmps := tmps1, params := ps1.toArray, assign := assign1, body := body1, defers := defs1 }), ?_, ?_⟩
          · rw [hblk] at hO1
            simp only [Instr.beginRound, Sem.run_bind, run_getLoop hO1, Result.andThen_ok, run_setObj hO1 (by simp), Sem.run_pure]
          · rw [hblk] at hpb
            refine hex body fr1 _ e2 fr2 st2 hx2 B0 w.heap.size φ1 _ a1 (some (φ l).blk) _ hpb.sim (by rw [setObj_next]; exact hfr1) (fun hn => by rw [hrd1, hrd] at hn; cases hn) (by rw [setBlk_size]; exact hp1.size) ?_ ?_
            · exact hm1.post hpb
            · intro φ2 w2 a2 hp2 hfr2 _ _
              have hpall := (hp1.trans hpb).trans hp2
              have hblk2 : (φ2 l).blk = (φ l).blk := by rw [hpall.agr l hlt (hs.on l _ hl)]
              have fin : ∀ {state : LoopState} {jump : Option Code} {st3 : St} {b : Bool}, setLoop st2 l state jump = some st3 → state = (if jump.isNone then .ready else .done) → b = jump.isNone → v = .bool b → st' = st3 →
                  ∃ u w', (Instr.endRound (φ l).blk jump).run P w2 = .ok u w' ∧ R (.returned u) w' := by
                rintro state jump st3 b hsl rfl rfl rfl rfl
                obtain ⟨r, hr2, hp3, hn3⟩ := setLoop_ok hpall.sim hsl
                rw [hblk2] at hr2 hp3
                refine ⟨_, _, ?_, hR φ2 _ (.bool jump.isNone) (hpall.trans hp3) Rep.bool⟩
                simp only [Instr.endRound, Sem.run_bind, run_getLoop hr2, Result.andThen_ok, run_setObj hr2 (by simp), Sem.run_pure]
              cases e2 with
              | normal =>
                simp only [roundEnd, bnd_eq, Option.some.injEq, Prod.mk.injEq] at h
                obtain ⟨st3, h1, h2, h3⟩ := h
                exact fin h1 rfl rfl h2.symm h3.symm
              | ret =>
                simp only [roundEnd, bnd_eq, Option.some.injEq, Prod.mk.injEq] at h
                obtain ⟨st3, h1, h2, h3⟩ := h
                exact fin h1 rfl rfl h2.symm h3.symm
              | exit i =>
                simp only [roundEnd, bnd_eq, Option.some.injEq, Prod.mk.injEq] at h
                obtain ⟨st3, h1, h2, h3⟩ := h
                exact fin h1 rfl rfl h2.symm h3.symm
        · cases h
      | exit i => simp [roundBody] at h
      | ret => simp [roundBody] at h
  · cases h

/-- A call of a function value, as an operation of a region. -/
theorem callOp_ok {C : Ctx} (hC : CtxOk C) {ex : Exec} (hex : ExOk C.P ex) {o : Oper} {c : Call} {g : Operand} (ho : o.op = .call c) (hg : c.callee = .value g) {a : Act} {fr : Fr} (hs : Sim B0 φ st w) (hfr : FrR st.next φ fr a)
    {v : AV} {st' : St} (h : aopO C ex o.op fr st = some (v, st')) (ro : Option Nat) {next : Act → World → Prop} {Q : Exit → Act → World → Prop} (b : Act) (hb : execOp b.eval o = execOp a.eval o)
    (hN : ∀ φ' w' u, Post B0 φ st w φ' st' w' → Rep st'.next φ' v u → next (b.put o.dst u) w') : o.wpIn (FW ro) 0 C.P b w next Q := by
  refine ⟨fun f _ => FW_fn _ _, ?_⟩
  rw [Oper.semAt_eq _ _ _ (by rw [ho]; intro c' hc; cases hc), hb]
  rw [ho] at h
  simp only [aopO, oCall, bnd_eq] at h
  obtain ⟨args, hargs, h⟩ := h
  have hr := evs_ok hs.base hfr hargs
  have e1 : (c.args.toList.map a.eval).toArray = c.args.map a.eval := by apply Array.ext'; simp
  rw [hg] at h
  simp only [bnd_eq] at h
  obtain ⟨fv, hfv, h⟩ := h
  have hrf := ev_ok hs.base hfr hfv
  have hx : ∀ {fn : Fn} {p q : Array Value}, a.eval g = .func fn p q → (execOp a.eval o).run C.P w = (invoke (.fn fn q) (p ++ c.args.map a.eval)).run C.P w := by
    intro fn p q he
    simp only [execOp, ho, resolve, hg, Deferred.ofValue, he, Sem.run_bind, Sem.run_pure, Result.andThen_ok]
  unfold callV at h
  split at h
  · rename_i f first captured
    obtain ⟨us1, us2, he, r1, r2⟩ : ∃ us1 us2 : List Value, a.eval g = .func (.func f) us1.toArray us2.toArray ∧ RepL st.next φ first us1 ∧ RepL st.next φ captured us2 := by
      refine ⟨concL φ first, concL φ captured, by rw [← hrf.now, conc]; rfl, ?_, ?_⟩
      · intro φ' h'
        have := hrf φ' h'
        rw [← hrf.now, conc, conc] at this
        exact List.toArray_inj (Value.func.inj this).2.1
      · intro φ' h'
        have := hrf φ' h'
        rw [← hrf.now, conc, conc] at this
        exact List.toArray_inj (Value.func.inj this).2.2
    have hcat : us1.toArray ++ c.args.map a.eval ++ us2.toArray = (us1 ++ (c.args.toList.map a.eval ++ us2)).toArray := by
      rw [← e1]; apply Array.ext'; simp
    rw [hx he]
    simp only [invoke, hcat]
    rcases acall_ok (R := fun u w' => next (b.put o.dst u) w') hC hex h hs (r1.append (hr.append r2)) (fun φ' w' u h1 h2 => hN φ' w' u h1 h2) with ⟨h1, h2⟩ | ⟨u, w', h1, h2⟩
    · rw [h1]
      refine ⟨fun hd => absurd hd (by rw [FW_depth]; simp), FW_calls (h2.mono fun e w' he => ?_)⟩
      obtain ⟨u, h3, hu⟩ := he
      subst h3
      exact hu
    · rw [h1]
      exact h2
  · rename_i l
    have he : a.eval g = .func (.yield (φ l).blk) #[] #[] := by rw [← hrf.now, conc]; rfl
    rw [hx he]
    obtain ⟨f, tmps, assign, body, h1, h2⟩ := round_ok (R := fun e w' => ∃ u, e = .returned u ∧ next (b.put o.dst u) w') hex h hs hr ro (fun φ' w' u h1 h2 => ⟨u, rfl, hN φ' w' u h1 h2⟩)
    have hcat : (#[] : Array Value) ++ c.args.map a.eval = (c.args.toList.map a.eval).toArray := by rw [e1]; simp
    rw [hcat]
    simp only [invoke, h1]
    refine ⟨fun hd => absurd hd (by rw [FW_depth]; simp), h2.mono fun e w' he => ?_⟩
    obtain ⟨u, h3, hu⟩ := he
    subst h3
    exact hu
  · cases h
end Go.AE

namespace Go.AE
open Go Go.RowKit

variable {P : Program} {φ : Emb} {w : World} {B0 : Nat} {st : St}

/-- One operation. -/
theorem opStep_ok {C : Ctx} (hC : CtxOk C) {ex : Exec} (hex : ExOk C.P ex) {o : Oper} {a : Act} {fr : Fr} (hs : Sim B0 φ st w) (hfr : FrR st.next φ fr a)
    {v : AV} {st' : St} (h : aopO C ex o.op fr st = some (v, st')) (ro : Option Nat) {next : Act → World → Prop} {Q : Exit → Act → World → Prop} (b : Act) (hb : execOp b.eval o = execOp a.eval o)
    (hN : ∀ φ' w' u, Post B0 φ st w φ' st' w' → Rep st'.next φ' v u → next (b.put o.dst u) w') : o.wpIn (FW ro) 0 C.P b w next Q := by
  by_cases hfn : IsFn o.op
  · obtain ⟨c, g, h1, h2⟩ := hfn
    exact callOp_ok hC hex h1 h2 hs hfr h ro b hb hN
  · refine ⟨fun f _ => FW_fn _ _, ?_⟩
    rw [Oper.semAt_eq _ _ _ (by intro c hc; rw [hc] at h; simp [aopO] at h), hb]
    obtain ⟨φ', w', nx, u, h1, h2, h3, h4⟩ := aop_ok rfl hs hfr h hfn
    rw [h1]
    rcases h2 with rfl | ⟨rfl, rfl⟩
    · exact hN φ' w' u h3 h4
    · exact hN φ' w' _ h3 h4

theorem bnd_eq_bind {α β : Type} (o : Option α) (f : α → Option β) : o.bnd f = o.bind f := by cases o <;> rfl
theorem wants_ok {n : Nat} {fr : Fr} {a : Act} (hfr : FrR n φ fr a) {ops : Array Oper} (o : Oper) : wants ops.toList fr o = Region.wanted o (yielded ops a.tmps) := by
  unfold wants Region.wanted
  cases o.guard with
  | none => rfl
  | some g =>
    obtain ⟨j, want⟩ := g
    simp only [wantG, nth_eq, yielded]
    rw [bnd_eq_bind]
    have e1 : ops.toList[j]? = ops[j]? := by simp
    rw [e1]
    cases hd : (ops[j]?).bind (·.dst) with
    | none => simp
    | some d =>
      have hv := (hfr.val d).now
      simp only [Option.bind_some]
      cases ht : a.tmps[d]? with
      | none =>
        have hu : a.tmps.getD d undef = undef := by rw [Array.getD_eq_getD_getElem?, ht]; rfl
        rw [hu] at hv
        have : fr.get d = .tup [] := by
          cases hg : fr.get d <;> rw [hg] at hv <;> simp only [conc, undef, reduceCtorEq, Value.tuple.injEq] at hv
          rename_i c
          cases c with
          | nil => rfl
          | cons x y => simp [concL] at hv
        rw [this]
        simp
      | some x =>
        have hu : a.tmps.getD d undef = x := by rw [Array.getD_eq_getD_getElem?, ht]; rfl
        rw [hu] at hv
        cases hg : fr.get d <;> rw [hg] at hv <;> simp only [conc] at hv <;> subst hv <;> simp

theorem aops_ok {C : Ctx} (hC : CtxOk C) {ex : Exec} (hex : ExOk C.P ex) {ops : Array Oper} {ro : Option Nat} {m0 : Nat} {Q : Exit → Act → World → Prop} : ∀ (l pre : List Oper), ops.toList = pre ++ l → ∀ {fr fr' : Fr} {st st' : St} {φ : Emb} {w : World} {a : Act},
    aops C ex ops.toList l fr st = some (fr', st') → Sim B0 φ st w → FrR st.next φ fr a → Marks m0 φ st w a.defers →
    (∀ φ' w' a', Post B0 φ st w φ' st' w' → FrR st'.next φ' fr' a' → Marks m0 φ' st' w' a'.defers → fr'.rd = fr.rd → Q .normal a' w') →
    wpOpsIn (FW ro) 0 C.P ops Q (List.range' pre.length l.length) a w
  | [], pre, hops, fr, fr', st, st', φ, w, a, h, hs, hfr, hm, hQ => by
    simp only [aops, Option.some.injEq, Prod.mk.injEq] at h
    obtain ⟨rfl, rfl⟩ := h
    exact hQ φ w a (Post.refl hs) hfr hm rfl
  | o :: l, pre, hops, fr, fr', st, st', φ, w, a, h, hs, hfr, hm, hQ => by
    have hi : ops[pre.length]? = some o := by
      rw [← Array.getElem?_toList, hops, List.getElem?_append_right (Nat.le_refl _)]; simp
    have hnext : ∀ {φ1 : Emb} {w1 : World} {u : Value} {v : AV} {st1 : St}, putK o.dst fr (aops C ex ops.toList l) (v, st1) = some (fr', st') → Post B0 φ st w φ1 st1 w1 → Rep st1.next φ1 v u →
        wpOpsIn (FW ro) 0 C.P ops Q (List.range' (pre.length + 1) l.length) (a.put o.dst u) w1 := by
      intro φ1 w1 u v st1 hk hp hrep
      simp only [putK, bnd_eq] at hk
      obtain ⟨fr1, hput, hk⟩ := hk
      obtain ⟨k1, k2, k3⟩ := (hp.frR hfr).put hput hrep
      have hds : (a.put o.dst u).defers = a.defers := by cases o.dst <;> rfl
      have := aops_ok hC hex (ro := ro) (m0 := m0) (Q := Q) l (pre ++ [o]) (by simp [hops]) hk hp.sim k1 (by rw [hds]; exact hm.post hp)
        (fun φ' w' a' h1 h2 h3 h4 => hQ φ' w' a' (hp.trans h1) h2 h3 (h4.trans k2))
      simpa using this
    rw [List.length_cons, List.range'_succ]
    simp only [wpOpsIn, hi]
    have h : aopsStep C ex ops.toList o (aops C ex ops.toList l) fr st = some (fr', st') := h
    unfold aopsStep at h
    rw [wants_ok hfr] at h
    by_cases hw : Region.wanted o (yielded ops a.tmps) = true
    · rw [if_pos hw]
      simp only [hw, cnd_true, bnd_eq] at h
      obtain ⟨⟨v, st1⟩, hop, hk⟩ := h
      exact opStep_ok hC hex hs hfr hop ro a rfl fun φ1 w1 u hp hrep => hnext hk hp hrep
    · rw [if_neg hw]
      have hwf : Region.wanted o (yielded ops a.tmps) = false := by simpa using hw
      simp only [hwf, cnd_false] at h
      exact ⟨fun f _ => FW_fn _ _, hnext h (Post.refl hs) Rep.undef⟩
theorem region_ok {C : Ctx} (hC : CtxOk C) {ex : Exec} (hex : ExOk C.P ex) {id : Nat} {ops : Array Oper} {ro : Option Nat} {m0 : Nat} {Q : Exit → Act → World → Prop} {fr fr' : Fr} {st' : St} {a : Act}
    (h : aops C ex ops.toList ops.toList fr st = some (fr', st')) (hs : Sim B0 φ st w) (hfr : FrR st.next φ fr a) (hm : Marks m0 φ st w a.defers)
    (hQ : ∀ φ' w' a', Post B0 φ st w φ' st' w' → FrR st'.next φ' fr' a' → Marks m0 φ' st' w' a'.defers → fr'.rd = fr.rd → Q .normal a' w') : (Code.region id ops false).wpIn (FW ro) 0 C.P Q a w := by
  refine wpIn_region ?_
  have := aops_ok (B0 := B0) hC hex (ro := ro) (m0 := m0) (Q := Q) ops.toList [] rfl h hs hfr hm hQ
  rw [List.range_eq_range']
  simpa using this
end Go.AE

namespace Go.AE
open Go Go.RowKit

variable {P : Program} {φ : Emb} {w : World} {B0 : Nat} {st : St}

/-- S says less than T. -/
structure Less (S T : St) : Prop where
  next : S.next = T.next
  fams : S.fams = T.fams
  sub : ∀ b o, S.heap.get b = some o → T.heap.get b = some o
  fam : ∀ b o f, T.heap.get b = some o → o.fam = some f → S.heap.get b = some o
theorem Less.refl (S : St) : Less S S := ⟨rfl, rfl, fun _ _ h => h, fun _ _ _ h _ => h⟩
theorem Sim.drop {S T : St} (h : Sim B0 φ T w) (k : Less S T) : Sim B0 φ S w := by
  have hs : ∀ b o, Seen S b o → Seen T b o := fun b o hs f hf => by
    obtain ⟨F, hF, hle⟩ := hs f hf
    exact ⟨F, by rw [← k.fams]; exact hF, hle⟩
  refine ⟨by rw [k.next]; exact h.base, h.b0, fun b o f hb hf => ?_, fun b o hb => by rw [k.next]; exact h.dom b o (k.sub b o hb), fun b o hb => h.bd b o (k.sub b o hb), fun b o hb hw => h.low b o (k.sub b o hb) hw,
    fun b b' o o' hb hb' he => h.inj b b' o o' (k.sub b o hb) (k.sub b' o' hb') he, fun b o hb hsn => by rw [k.next]; exact h.obj b o (k.sub b o hb) (hs b o hsn), fun f F hF => ?_, fun b o hb => h.on b o (k.sub b o hb)⟩
  · rw [k.fams]; exact h.famk b o f (k.sub b o hb) hf
  · rw [k.fams] at hF
    obtain ⟨h1, BL, h2⟩ := h.fam f F hF
    rw [k.next]
    refine ⟨h1, BL, k.fam _ _ f h2.live (by simp [AObj.fam, h2.kind]), h2.kind, h2.since, fun b B hb hk => h2.last b B (k.sub _ _ hb) hk, fun b B hb hk hle he => h2.ends b B (k.sub _ _ hb) hk hle he, h2.froz⟩
theorem Post.drop {S T : St} (h : Sim B0 φ T w) (k : Less S T) : Post B0 φ T w φ S w :=
  ⟨⟨Agr.refl _ _, by rw [k.next]; exact Nat.le_refl _, h.drop k, fun _ _ _ => rfl, Nat.le_refl _, rfl, rfl, rfl,
    fun b o hb => ⟨fun hw => .inl ⟨o, k.sub b o hb, hw⟩, fun h1 => absurd (h.old b o (k.sub b o hb)) h1, fun _ => ⟨o, k.sub b o hb⟩⟩⟩, fun _ _ h => h⟩

/-- Blocks laid beside: number base + j holds f j. -/
noncomputable def layN (base : Nat) (f : Nat → Option AObj) : Nat → St → St
  | 0, S => S
  | j + 1, S => match f j with
    | some o => (layN base f j S).setObj (base + j) o
    | none => layN base f j S
theorem setObj_get (st : St) (b c : Nat) (o : AObj) : (st.setObj b o).heap.get c = if c = b then some o else st.heap.get c := by
  cases st; exact T.get_set _ _ _ _
theorem setObj_fams (st : St) (b : Nat) (o : AObj) : (st.setObj b o).fams = st.fams := by cases st; rfl
theorem layN_next (base : Nat) (f : Nat → Option AObj) (S : St) : ∀ n, (layN base f n S).next = S.next
  | 0 => rfl
  | j + 1 => by
    rw [layN]
    split
    · rw [setObj_next, layN_next]
    · exact layN_next base f S j
theorem layN_fams (base : Nat) (f : Nat → Option AObj) (S : St) : ∀ n, (layN base f n S).fams = S.fams
  | 0 => rfl
  | j + 1 => by
    rw [layN]
    split
    · rw [setObj_fams, layN_fams]
    · exact layN_fams base f S j
theorem layN_at (base : Nat) (f : Nat → Option AObj) (S : St) {j : Nat} {o : AObj} (h : f j = some o) : ∀ n, j < n → (layN base f n S).heap.get (base + j) = some o
  | 0, hn => by omega
  | m + 1, hn => by
    rw [layN]
    by_cases e : j = m
    · subst e; rw [h]; simp only; rw [setObj_get, if_pos rfl]
    · split
      · rw [setObj_get, if_neg (by omega)]; exact layN_at base f S h m (by omega)
      · exact layN_at base f S h m (by omega)
theorem layN_off (base : Nat) (f : Nat → Option AObj) (S : St) {b : Nat} : ∀ n, (∀ j, j < n → b = base + j → f j = none) → (layN base f n S).heap.get b = S.heap.get b
  | 0, _ => rfl
  | m + 1, h => by
    rw [layN]
    split
    · rename_i o ho
      rw [setObj_get, if_neg (fun e => by rw [h m (by omega) e] at ho; cases ho)]
      exact layN_off base f S m fun j hj => h j (by omega)
    · exact layN_off base f S m fun j hj => h j (by omega)
/-- Where a block of the laid state comes from. -/
theorem layN_cases (base : Nat) (f : Nat → Option AObj) (S : St) (n : Nat) {b : Nat} {o : AObj} (h : (layN base f n S).heap.get b = some o) :
    (∃ j, j < n ∧ b = base + j ∧ f j = some o) ∨ ((∀ j, j < n → b = base + j → f j = none) ∧ S.heap.get b = some o) := by
  by_cases e : ∃ j o', j < n ∧ b = base + j ∧ f j = some o'
  · obtain ⟨j, o', h1, rfl, h3⟩ := e
    rw [layN_at base f S h3 n h1] at h
    obtain rfl := Option.some.inj h
    exact .inl ⟨j, h1, rfl, h3⟩
  · have hn : ∀ j, j < n → b = base + j → f j = none := by
      intro j h1 h2
      cases h3 : f j with
      | none => rfl
      | some o' => exact absurd ⟨j, o', h1, h2, h3⟩ e
    rw [layN_off base f S n hn] at h
    exact .inr ⟨hn, h⟩

/-- What stands beside stays, whatever is done with the rest. -/
theorem Post.frame {base n : Nat} {f : Nat → Option AObj} {S S' : St} {φ' : Emb} {w' : World} (hT : Sim B0 φ (layN base f n S) w) (hp : Post B0 φ S w φ' S' w')
    (hf : ∀ j o, j < n → f j = some o → o.fam = none ∧ S.heap.get (base + j) = none) : Post B0 φ (layN base f n S) w φ' (layN base f n S') w' := by
  have hbk : ∀ j o, j < n → f j = some o → Old φ S (base + j) := by
    intro j o hj ho
    have := hT.old (base + j) o (layN_at base f S ho n hj)
    exact ⟨by rw [← layN_next base f S n]; exact this.1, this.2⟩
  have hof : ∀ {j : Nat} {o : AObj}, j < n → f j = some o → φ' (base + j) = φ (base + j) := fun hj ho => hp.agr _ (hbk _ _ hj ho).1 (hbk _ _ hj ho).2
  have hS' : ∀ j o, j < n → f j = some o → S'.heap.get (base + j) = none := by
    intro j o hj ho
    cases h : S'.heap.get (base + j) with
    | none => rfl
    | some x =>
      obtain ⟨o0, h0⟩ := (hp.img _ _ h).2.2 (hbk j o hj ho)
      rw [(hf j o hj ho).2] at h0; cases h0
  -- what of S stands in the laid state, too
  have hin : ∀ b o, S.heap.get b = some o → (layN base f n S).heap.get b = some o := by
    intro b o hb
    rw [layN_off]
    · exact hb
    · intro j hj e
      cases h : f j with
      | none => rfl
      | some x => rw [e, (hf j x hj h).2] at hb; cases hb
  -- a block beside shares its place with none of S'
  have hapart : ∀ {j : Nat} {o : AObj}, j < n → f j = some o → ∀ b x, S'.heap.get b = some x → (φ' b).blk ≠ (φ (base + j)).blk := by
    intro j o hj ho b x hb he
    have hTj := layN_at base f S ho n hj
    obtain ⟨_, i2, i3⟩ := hp.img b x hb
    by_cases hold : Old φ S b
    · obtain ⟨o0, h0⟩ := i3 hold
      rw [hp.agr b hold.1 hold.2] at he
      rcases hT.inj b (base + j) o0 o (hin b o0 h0) hTj he with e | ⟨g, _, hg⟩
      · rw [e, (hf j o hj ho).2] at h0; cases h0
      · rw [(hf j o hj ho).1] at hg; cases hg
    · rcases i2 hold with h4 | ⟨b0, o0, h0, _, he0⟩
      · have := hT.bd _ _ hTj; omega
      · rcases hT.inj b0 (base + j) o0 o (hin b0 o0 h0) hTj (he0.trans he) with e | ⟨g, _, hg⟩
        · rw [e, (hf j o hj ho).2] at h0; cases h0
        · rw [(hf j o hj ho).1] at hg; cases hg
  have hkeep : ∀ {j : Nat} {o : AObj}, j < n → f j = some o → w'.heap[(φ (base + j)).blk]? = w.heap[(φ (base + j)).blk]? := by
    intro j o hj ho
    have hTj := layN_at base f S ho n hj
    refine hp.keep _ (hT.bd _ _ hTj) fun b x hb _ he => ?_
    rcases hT.inj b (base + j) x o (hin b x hb) hTj he with e | ⟨g, _, hg⟩
    · rw [e, (hf j o hj ho).2] at hb; cases hb
    · rw [(hf j o hj ho).1] at hg; cases hg
  have hnx := layN_next base f S' n
  have hfm := layN_fams base f S' n
  have hcell : ∀ b B f', (layN base f n S').heap.get b = some (.cells B) → B.k = .opn f' → S'.heap.get b = some (.cells B) := by
    intro b B f' hb hk
    rcases layN_cases base f S' n hb with ⟨j, hj, rfl, ho⟩ | ⟨_, h⟩
    · have := (hf j _ hj ho).1
      simp [AObj.fam, hk] at this
    · exact h
  refine ⟨⟨by rw [layN_next]; exact hp.agr, by rw [layN_next, layN_next]; exact hp.nx, ⟨by rw [hnx]; exact hp.sim.base, hp.sim.b0, ?_, ?_, ?_, ?_, ?_, ?_, ?_, ?_⟩, ?_, hp.size, hp.os, hp.tape, hp.output, ?_⟩, by rw [layN_next]; exact hp.off⟩
  · intro b o g hb hg
    rw [hfm]
    rcases layN_cases base f S' n hb with ⟨j, hj, rfl, ho⟩ | ⟨_, h⟩
    · rw [(hf j _ hj ho).1] at hg; cases hg
    · exact hp.sim.famk b o g h hg
  · intro b o hb
    rw [hnx]
    rcases layN_cases base f S' n hb with ⟨j, hj, rfl, ho⟩ | ⟨_, h⟩
    · exact Nat.lt_of_lt_of_le (hbk j _ hj ho).1 hp.nx
    · exact hp.sim.dom b o h
  · intro b o hb
    rcases layN_cases base f S' n hb with ⟨j, hj, rfl, ho⟩ | ⟨_, h⟩
    · rw [hof hj ho]; exact Nat.lt_of_lt_of_le (hT.bd _ _ (layN_at base f S ho n hj)) hp.size
    · exact hp.sim.bd b o h
  · intro b o hb hw
    rcases layN_cases base f S' n hb with ⟨j, hj, rfl, ho⟩ | ⟨_, h⟩
    · rw [hof hj ho]; exact hT.low _ _ (layN_at base f S ho n hj) hw
    · exact hp.sim.low b o h hw
  · intro b b' o o' hb hb' he
    rcases layN_cases base f S' n hb with ⟨j, hj, rfl, ho⟩ | ⟨_, h⟩ <;> rcases layN_cases base f S' n hb' with ⟨j', hj', rfl, ho'⟩ | ⟨_, h'⟩
    · rw [hof hj ho, hof hj' ho'] at he
      exact hT.inj _ _ _ _ (layN_at base f S ho n hj) (layN_at base f S ho' n hj') he
    · rw [hof hj ho] at he
      exact absurd he.symm (hapart hj ho b' o' h')
    · rw [hof hj' ho'] at he
      exact absurd he (hapart hj' ho' b o h)
    · exact hp.sim.inj b b' o o' h h' he
  · intro b o hb hs
    rw [hnx]
    rcases layN_cases base f S' n hb with ⟨j, hj, rfl, ho⟩ | ⟨_, h⟩
    · rw [hof hj ho, hkeep hj ho]
      have := hT.obj _ _ (layN_at base f S ho n hj) (fun g hg => by rw [(hf j _ hj ho).1] at hg; cases hg)
      rw [layN_next] at this
      exact this.mono hp.nx hp.agr
    · exact hp.sim.obj b o h fun g hg => by obtain ⟨F, hF, hle⟩ := hs g hg; exact ⟨F, by rw [← hfm]; exact hF, hle⟩
  · intro g F hF
    rw [hfm] at hF
    obtain ⟨h1, BL, h2⟩ := hp.sim.fam g F hF
    refine ⟨by rw [hnx]; exact h1, BL, ?_, h2.kind, h2.since, fun b B hb hk => h2.last b B (hcell b B g hb hk) hk, fun b B hb hk hle he => h2.ends b B (hcell b B g hb hk) hk hle he, h2.froz⟩
    rw [layN_off]
    · exact h2.live
    · intro j hj e
      cases h : f j with
      | none => rfl
      | some x => have := h2.live; rw [e, hS' j x hj h] at this; cases this
  · intro b o hb
    rcases layN_cases base f S' n hb with ⟨j, hj, rfl, ho⟩ | ⟨_, h⟩
    · rw [hof hj ho]; exact (hbk j _ hj ho).2
    · exact hp.sim.on b o h
  · intro r hr hno
    exact hp.keep r hr fun b o hb hw => hno b o (hin b o hb) hw
  · intro b o hb
    have hOld : Old φ (layN base f n S) b ↔ Old φ S b := by simp only [Old, layN_next]
    rw [hOld]
    rcases layN_cases base f S' n hb with ⟨j, hj, rfl, ho⟩ | ⟨_, h⟩
    · have hTj := layN_at base f S ho n hj
      exact ⟨fun hw => .inl ⟨o, hTj, hw⟩, fun h1 => absurd (hbk j o hj ho) h1, fun _ => ⟨o, hTj⟩⟩
    · obtain ⟨i1, i2, i3⟩ := hp.img b o h
      refine ⟨fun hw => ?_, fun h1 => ?_, fun h1 => ?_⟩
      · rcases i1 hw with ⟨o0, h0, hw0⟩ | h0
        · exact .inl ⟨o0, hin b o0 h0, hw0⟩
        · exact .inr h0
      · rcases i2 h1 with h2 | ⟨b0, o0, h0, hw0, he0⟩
        · exact .inl h2
        · exact .inr ⟨b0, o0, hin b0 o0 h0, hw0, he0⟩
      · obtain ⟨o0, h0⟩ := i3 h1
        exact ⟨o0, hin b o0 h0⟩
end Go.AE

namespace Go.AE
open Go Go.RowKit

variable {P : Program} {φ : Emb} {w : World} {B0 : Nat} {st : St}

/-- The embedding, but that nothing is said from m on. -/
def cutOff (φ : Emb) (m : Nat) : Emb := fun b => if b < m then φ b else ⟨0, 0, 0, 0⟩
theorem cutOff_lt {m b : Nat} (h : b < m) : cutOff φ m b = φ b := if_pos h
theorem cutOff_ge {m b : Nat} (h : m ≤ b) : (cutOff φ m b).z = 0 := by unfold cutOff; rw [if_neg (by omega)]
theorem resv_next (n : Nat) (st : St) : (resv n st).next = st.next + n := by cases st; rfl
theorem resv_heap (n : Nat) (st : St) : (resv n st).heap = st.heap := by cases st; rfl
theorem resv_fams (n : Nat) (st : St) : (resv n st).fams = st.fams := by cases st; rfl
theorem reserve_ok (h : Sim B0 φ st w) (n : Nat) : Post B0 φ st w (cutOff φ st.next) (resv n st) w := by
  have hag : Agr st.next φ (cutOff φ st.next) := fun b hb _ => cutOff_lt hb
  have hd : ∀ {b : Nat} {o : AObj}, st.heap.get b = some o → cutOff φ st.next b = φ b := fun hb => cutOff_lt (h.dom _ _ hb)
  refine ⟨⟨hag, by rw [resv_next]; omega, ⟨?_, h.b0, ?_, ?_, ?_, ?_, ?_, ?_, ?_, ?_⟩, fun _ _ _ => rfl, Nat.le_refl _, rfl, rfl, rfl, ?_⟩, fun b hb hz => by rw [cutOff_lt hb]; exact hz⟩
  · have := h.base.le
    exact ⟨by rw [resv_next]; omega, fun g hg => by rw [cutOff_lt (by omega)]; exact h.base.id g hg, fun g hg => by rw [cutOff_lt (by omega)]; exact h.base.on g hg⟩
  · rw [resv_heap, resv_fams]; exact h.famk
  · intro b o hb
    rw [resv_heap] at hb
    rw [resv_next]; have := h.dom b o hb; omega
  · intro b o hb
    rw [resv_heap] at hb
    rw [hd hb]; exact h.bd b o hb
  · intro b o hb hw
    rw [resv_heap] at hb
    rw [hd hb]; exact h.low b o hb hw
  · intro b b' o o' hb hb' he
    rw [resv_heap] at hb hb'
    rw [hd hb, hd hb'] at he
    exact h.inj b b' o o' hb hb' he
  · intro b o hb hs
    rw [resv_heap] at hb
    rw [hd hb, resv_next]
    exact (h.obj b o hb fun f hf => by obtain ⟨F, hF, hle⟩ := hs f hf; exact ⟨F, by rw [← resv_fams n st]; exact hF, hle⟩).mono (Nat.le_add_right _ _) hag
  · intro f F hF
    rw [resv_fams] at hF
    obtain ⟨h1, BL, k⟩ := h.fam f F hF
    refine ⟨by rw [resv_next]; omega, BL, by rw [resv_heap]; exact k.live, k.kind, k.since, ?_, ?_, ?_⟩
    · rw [resv_heap]; exact k.last
    · intro b B hb hk hle he
      rw [resv_heap] at hb
      rw [hd hb, hd k.live] at *
      exact k.ends b B hb hk hle he
    · intro c e fz hc
      rw [hd k.live] at *
      exact k.froz c e fz hc
  · intro b o hb
    rw [resv_heap] at hb
    rw [hd hb]; exact h.on b o hb
  · intro b o hb
    rw [resv_heap] at hb
    rw [hd hb]
    exact ⟨fun hw => .inl ⟨o, hb, hw⟩, fun h1 => absurd (h.old b o hb) h1, fun _ => ⟨o, hb⟩⟩

/-- A new block at a reserved number. -/
theorem Post.allocAt {w' : World} (h : Sim B0 φ st w) {id : Nat} (hid : id < st.next) (hoff : (φ id).z = 0) {o : AObj} {O : Obj} {im : Img} (him : im.blk = w.heap.size) (hon : im.z ≠ 0)
    (hh : w'.heap = w.heap.push O) (h1 : w'.os = w.os) (h2 : w'.tape = w.tape) (h3 : w'.output = w.output) (hf : o.fam = none)
    (ho : ObjOk st.next (upd φ id im) im o (some O)) : PostW B0 φ st w (upd φ id im) (st.setObj id o) w' ∧ ∀ b, b ≠ id → upd φ id im b = φ b := by
  have hag : Agr st.next φ (upd φ id im) := fun b _ hz => upd_ne φ im (fun e => hz (by rw [e]; exact hoff))
  have hold : ∀ r, r < w.heap.size → w'.heap[r]? = w.heap[r]? := fun r hr => by rw [hh, Array.getElem?_push, if_neg (by omega)]
  have hnew : w'.heap[w.heap.size]? = some O := by rw [hh]; simp
  have hsz : w'.heap.size = w.heap.size + 1 := by rw [hh]; simp
  have hne : ∀ {b : Nat} {x : AObj}, st.heap.get b = some x → b ≠ id := fun hb e => h.on _ _ hb (by rw [e]; exact hoff)
  have hget : ∀ b x, (st.setObj id o).heap.get b = some x → (b = id ∧ x = o) ∨ (b ≠ id ∧ st.heap.get b = some x) := by
    intro b x hb
    rw [setObj_get] at hb
    by_cases e : b = id
    · rw [if_pos e] at hb; exact .inl ⟨e, (Option.some.inj hb).symm⟩
    · rw [if_neg e] at hb; exact .inr ⟨e, hb⟩
  have hu : ∀ {b : Nat}, b ≠ id → upd φ id im b = φ b := fun e => upd_ne φ im e
  have hn : (st.setObj id o).next = st.next := setObj_next _ _ _
  have hfm : (st.setObj id o).fams = st.fams := setObj_fams _ _ _
  have hnofam : ∀ {B : Blk} {f : Nat}, AObj.cells B = o → B.k = .opn f → False := by
    intro B f he hk
    rw [← he] at hf
    simp [AObj.fam, hk] at hf
  have hbase : Base st.next (upd φ id im) := by
    have hb := h.base
    have hlow : ∀ g, g < 64 → g ≠ id := fun g hg e => hb.on g hg (by rw [e]; exact hoff)
    exact ⟨hb.le, fun g hg => by rw [hu (hlow g hg)]; exact hb.id g hg, fun g hg => by rw [hu (hlow g hg)]; exact hb.on g hg⟩
  refine ⟨⟨hag, by rw [hn]; exact Nat.le_refl _, ⟨by rw [hn]; exact hbase, by rw [hsz]; have := h.b0; omega, ?_, ?_, ?_, ?_, ?_, ?_, ?_, ?_⟩, fun r hr _ => hold r hr, by omega, h1, h2, h3, ?_⟩, fun _ e => hu e⟩
  · intro b x f hb hx
    rw [hfm]
    rcases hget b x hb with ⟨rfl, rfl⟩ | ⟨_, hb'⟩
    · rw [hf] at hx; cases hx
    · exact h.famk b x f hb' hx
  · intro b x hb
    rw [hn]
    rcases hget b x hb with ⟨rfl, rfl⟩ | ⟨_, hb'⟩
    · exact hid
    · exact h.dom b x hb'
  · intro b x hb
    rcases hget b x hb with ⟨rfl, rfl⟩ | ⟨e, hb'⟩
    · rw [upd_same, him, hsz]; omega
    · rw [hu e, hsz]; have := h.bd b x hb'; omega
  · intro b x hb hw
    rcases hget b x hb with ⟨rfl, rfl⟩ | ⟨e, hb'⟩
    · rw [upd_same, him]; exact h.b0
    · rw [hu e]; exact h.low b x hb' hw
  · intro b b' x x' hb hb' he
    rcases hget b x hb with ⟨rfl, rfl⟩ | ⟨e, hb1⟩ <;> rcases hget b' x' hb' with ⟨rfl, rfl⟩ | ⟨e', hb1'⟩
    · exact .inl rfl
    · rw [upd_same, him, hu e'] at he; have := h.bd b' x' hb1'; omega
    · rw [upd_same, him, hu e] at he; have := h.bd b x hb1; omega
    · rw [hu e, hu e'] at he; exact h.inj b b' x x' hb1 hb1' he
  · intro b x hb hs
    rw [hn]
    rcases hget b x hb with ⟨rfl, rfl⟩ | ⟨e, hb'⟩
    · rw [upd_same, him, hnew]; exact ho
    · rw [hu e, hold _ (h.bd b x hb')]
      exact (h.obj b x hb' fun f hx => by obtain ⟨F, hF, hle⟩ := hs f hx; exact ⟨F, by rw [← hfm]; exact hF, hle⟩).mono (Nat.le_refl _) hag
  · intro f F hF
    rw [hfm] at hF
    obtain ⟨hlt, BL, k⟩ := h.fam f F hF
    have hl := hne k.live
    refine ⟨by rw [hn]; exact hlt, BL, ?_, k.kind, k.since, ?_, ?_, ?_⟩
    · rw [setObj_get, if_neg hl]; exact k.live
    · intro b B hb hk
      rcases hget b _ hb with ⟨_, e⟩ | ⟨_, hb'⟩
      · exact (hnofam e hk).elim
      · exact k.last b B hb' hk
    · intro b B hb hk hle he
      rcases hget b _ hb with ⟨_, e⟩ | ⟨e, hb'⟩
      · exact (hnofam e hk).elim
      · rw [hu e, hu hl] at *; exact k.ends b B hb' hk hle he
    · intro c e fz hc
      rw [hu hl] at *
      exact k.froz c e fz (by rw [← hold _ (h.bd _ _ k.live)]; exact hc)
  · intro b x hb
    rcases hget b x hb with ⟨rfl, rfl⟩ | ⟨e, hb'⟩
    · rw [upd_same]; exact hon
    · rw [hu e]; exact h.on b x hb'
  · intro b x hb
    rcases hget b x hb with ⟨rfl, rfl⟩ | ⟨e, hb'⟩
    · exact ⟨fun _ => .inr fun hold => hold.2 hoff, fun _ => .inl (by rw [upd_same, him]; exact Nat.le_refl _), fun hold => absurd hoff hold.2⟩
    · exact ⟨fun hw => .inl ⟨x, hb', hw⟩, fun h1 => absurd (h.old b x hb') h1, fun _ => ⟨x, hb'⟩⟩

/-- 'OkV', of what makes a block at a reserved number. -/
def OkAt (P : Program) (B0 : Nat) (φ : Emb) (st : St) (w : World) (id : Nat) (s : Sem Value) (v : AV) (st' : St) : Prop :=
  ∃ φ' w' u, s.run P w = .ok u w' ∧ (PostW B0 φ st w φ' st' w' ∧ ∀ b, b ≠ id → φ' b = φ b) ∧ Rep st'.next φ' v u
theorem newBlkAt_ok (hs : Sim B0 φ st w) {id : Nat} (hid : id < st.next) (hoff : (φ id).z = 0) {B : Blk} {cs : List Value} (hk : B.k = .rw) (hz : 1 ≤ B.z) (hsz : cs.length = B.hi * B.z)
    (hel : ∀ ψ, Agr st.next φ ψ → ElOk st.next ψ ⟨w.heap.size, 0, cs.length, B.z⟩ B cs.toArray) :
    ∃ φ', (PostW B0 φ st w φ' (st.setObj id (.cells B)) (w.alloc (.cells cs.toArray B.e)) ∧ ∀ b, b ≠ id → φ' b = φ b) ∧ (φ' id).blk = w.heap.size ∧ (φ' id).add = 0 ∧ (φ' id).z ≠ 0 := by
  refine ⟨upd φ id ⟨w.heap.size, 0, cs.length, B.z⟩, ?_, by rw [upd_same], by rw [upd_same], by rw [upd_same]; dsimp only; omega⟩
  refine Post.allocAt (O := .cells cs.toArray B.e) hs hid hoff rfl (by dsimp only; omega) rfl rfl rfl rfl (by simp [AObj.fam, hk]) ⟨cs.toArray, (0, 0), rfl, rfl, hz, hel _ (fun b _ hz => upd_ne _ _ (fun e => hz (by rw [e]; exact hoff))), ?_⟩
  unfold KindOk
  rw [hk]
  exact ⟨rfl, by simpa using hsz, rfl⟩
theorem oBoxAt_ok (hs : Sim B0 φ st w) {id : Nat} (hid : id < st.next) (hoff : (φ id).z = 0) {e : TypeId} {v r : AV} {u : Value} {o : AObj} (h : oBox e v id = some (r, o)) (hv : Rep st.next φ v u) :
    OkAt P B0 φ st w id (do pure (.pointer (some (← newVar e u)))) r (st.setObj id o) := by
  unfold oBox at h
  rw [cnd_eq, Bool.and_eq_true, ble_true] at h
  obtain ⟨⟨_, hl⟩, h⟩ := h
  obtain ⟨rfl, rfl⟩ := Prod.mk.inj (Option.some.inj h)
  have hc := hv.cells
  have hlen := hc.length
  obtain ⟨φ', hp, h1, h2, h3⟩ := newBlkAt_ok (B := ⟨e, v.cells.length, T.nil.set 0 v.cells, 1, 1, .rw⟩) (cs := u.cells.toList) hs hid hoff rfl hl (by simpa using hlen)
    (fun ψ hψ i hi => by
      obtain rfl : i = 0 := by simp at hi; omega
      refine ⟨v.cells, by show (T.nil.set 0 v.cells).get 0 = _; exact T.get_set_same _ _ _, rfl, fun k a ha => ?_⟩
      obtain ⟨x, hx, rx⟩ := hc.get ha
      refine ⟨x, ?_, rx.mono (Nat.le_refl _) hψ⟩
      simpa using hx)
  refine ⟨φ', _, _, ?_, hp, Rep.ptr_new (g := w.heap.size) (by rw [setObj_next]; exact hid) h3 h1 h2⟩
  simp [newVar, newRow]
theorem oAllocAt_ok (hs : Sim B0 φ st w) {id : Nat} (hid : id < st.next) (hoff : (φ id).z = 0) {e : TypeId} {r : AV} {o : AObj} (h : oAlloc P e id = some (r, o)) : OkAt P B0 φ st w id (Instr.alloc e true (.tuple #[])) r (st.setObj id o) := by
  unfold oAlloc at h
  rw [bnd_eq] at h
  obtain ⟨z, hz, h⟩ := h
  obtain ⟨uz, hz1, hz2⟩ := run_zero hz w
  obtain ⟨φ', w', u, h1, h2, h3⟩ := oBoxAt_ok (P := P) hs hid hoff h (Rep.closed hz2)
  refine ⟨φ', w', u, ?_, h2, h3⟩
  simp only [Instr.alloc, Sem.run_bind, hz1, Result.andThen_ok] at h1 ⊢
  exact h1
theorem oBuildSliceAt_ok (hs : Sim B0 φ st w) {id : Nat} (hid : id < st.next) (hoff : (φ id).z = 0) {t : TypeId} {len : Nat} {ps : List (Nat × AV)} {qs : List (Nat × Value)} {r : AV} {o : AObj}
    (h : oBuildSlice P t len ps id = some (r, o)) (hp : RepPs st.next φ ps qs) : OkAt P B0 φ st w id (Instr.buildSlice t len qs.toArray) r (st.setObj id o) := by
  unfold oBuildSlice at h
  split at h
  · rename_i e hd
    simp only [bnd_eq, cond_eq, Bool.and_eq_true, beq_true, ble_true] at h
    obtain ⟨k, hk, z, hz, ⟨⟨⟨hk1, hzl⟩, hbig⟩, _⟩, cs, hcs, o', ho, h⟩ := h
    obtain ⟨rfl, rfl⟩ := Prod.mk.inj (Option.some.inj h)
    obtain ⟨uz, hz1, hz2⟩ := run_zero hz w
    have hzc : RepL st.next φ z.cells uz.cells.toList := (Rep.closed (n := st.next) (φ := φ) hz2).cells
    have hul : uz.cells.size = k := by have := hzc.length; simp at this; omega
    obtain ⟨us, hf, hr⟩ := fill_ok hcs hp (hzc.rep len)
    obtain ⟨es, hes, rfl⟩ := rowOf_eq ho
    have hlen : us.length = len * k := by rw [hr.length]; exact (chunks_ok _ _ _ _ hes).1
    obtain ⟨φ', hpost, h1, h2, h3⟩ := newBlkAt_ok (B := ⟨e, k, setEls .nil 0 es, len, len, .rw⟩) (cs := us) hs hid hoff rfl hk1 hlen
      (fun ψ hψ => row_el hes (hr.mono (Nat.le_refl _) hψ) (by intro j u hu; simpa using hu) rfl rfl rfl)
    refine ⟨φ', _, _, ?_, hpost, Rep.slc_new (g := w.heap.size) (by rw [setObj_next]; exact hid) h3 h1 h2⟩
    have hbig' : ¬ len * k > 2 ^ 24 := by
      have : Nat.mul len k = len * k := rfl
      omega
    have hzero : (Array.range (len * k)).map (fun i => uz.cells[i % uz.cells.size]!) = (rep len uz.cells.toList).toArray := by
      have := zeros_eq uz.cells (by omega) len
      rwa [hul] at this ⊢
    have hf' : Instr.fill (fun i => some (i * k, k)) (rep len uz.cells.toList).toArray qs = some us.toArray := hf
    by_cases hlk : len * k = 0
    · have hl0 : len = 0 := by
        rcases Nat.mul_eq_zero.1 hlk with h | h
        · exact h
        · omega
      subst hl0
      simp only [rep] at hf'
      have hr0 : Array.map (fun _ => (default : Value)) (Array.range 0) = #[] := by simp
      simp [Instr.buildSlice, run_und hd, run_size hk, hr0, hf', newRow]
    · simp only [Instr.buildSlice, Sem.run_bind, run_und hd, run_size hk, Result.andThen_ok, if_neg hbig', if_neg hlk, Sem.run_pure, hz1]
      simp [hzero, hf', newRow]
  · cases h
theorem makeMapAt_ok (hs : Sim B0 φ st w) {id : Nat} (hid : id < st.next) (hoff : (φ id).z = 0) {t : TypeId} : OkAt P B0 φ st w id (Instr.makeMap t none) (.map id) (st.setObj id (.map [])) := by
  have := Post.allocAt (w' := w.alloc (.map #[] 0)) (o := .map []) (O := .map #[] 0) hs hid hoff (im := ⟨w.heap.size, 0, 0, 1⟩) rfl (by simp) rfl rfl rfl rfl rfl ⟨#[], 0, rfl, by simp [EntsOk]⟩
  refine ⟨_, _, _, ?_, this, Rep.map_new (g := w.heap.size) (by rw [setObj_next]; exact hid) (by rw [upd_same]; simp) (by rw [upd_same])⟩
  simp [Instr.makeMap]
end Go.AE

namespace Go.AE
open Go Go.RowKit

variable {P : Program} {φ : Emb} {w : World} {B0 : Nat} {st : St}

theorem oBox_fam {e : TypeId} {v r : AV} {id : Nat} {o : AObj} (h : oBox e v id = some (r, o)) : o.fam = none := by
  unfold oBox at h
  rw [cnd_eq] at h
  obtain ⟨_, rfl⟩ := Prod.mk.inj (Option.some.inj h.2)
  rfl
theorem aalloc_fam {fr : Fr} {op : Op} {id : Nat} {v : AV} {ob : AObj} (h : aalloc P fr op id = some (v, ob)) : ob.fam = none := by
  unfold aalloc at h
  split at h
  · unfold oAlloc at h
    rw [bnd_eq] at h
    obtain ⟨z, _, h⟩ := h
    exact oBox_fam h
  · rw [bnd_eq] at h
    obtain ⟨z, _, h⟩ := h
    exact oBox_fam h
  · rw [bnd_eq] at h
    obtain ⟨z, _, h⟩ := h
    unfold oBuildSlice at h
    split at h
    · simp only [bnd_eq, cond_eq] at h
      obtain ⟨_, _, _, _, _, _, _, o', ho, h⟩ := h
      obtain ⟨_, rfl⟩ := Prod.mk.inj (Option.some.inj h)
      obtain ⟨es, _, rfl⟩ := rowOf_eq ho
      rfl
    · cases h
  · obtain ⟨_, rfl⟩ := Prod.mk.inj (Option.some.inj h)
    rfl
  · cases h
theorem aalloc_ok {fr : Fr} {a : Act} (hs : Sim B0 φ st w) (hfr : FrR st.next φ fr a) {o : Oper} {id : Nat} (hid : id < st.next) (hoff : (φ id).z = 0) {v : AV} {ob : AObj} (h : aalloc P fr o.op id = some (v, ob)) :
    ∃ φ' w' u, (execOp a.eval o).run P w = .ok (.value u) w' ∧ (PostW B0 φ st w φ' (st.setObj id ob) w' ∧ ∀ b, b ≠ id → φ' b = φ b) ∧ Rep (st.setObj id ob).next φ' v u := by
  have fin : ∀ {s : Sem Value}, OkAt P B0 φ st w id s v (st.setObj id ob) → ∃ φ' w' u, ((do pure (.value (← s))) : Sem Next).run P w = .ok (.value u) w' ∧ (PostW B0 φ st w φ' (st.setObj id ob) w' ∧ ∀ b, b ≠ id → φ' b = φ b) ∧ Rep (st.setObj id ob).next φ' v u := by
    rintro s ⟨φ', w', u, h1, h2, h3⟩
    exact ⟨φ', w', u, by simp [h1], h2, h3⟩
  generalize ho : o.op = op at h
  unfold aalloc at h
  unfold execOp
  split at h
  · rw [ho]; exact fin (oAllocAt_ok hs hid hoff h)
  · rw [ho]
    rw [bnd_eq] at h
    obtain ⟨x, hx, h⟩ := h
    exact fin (oBoxAt_ok hs hid hoff h (ev_ok hs.base hfr hx))
  · rename_i t n ps
    rw [ho]
    rw [bnd_eq] at h
    obtain ⟨qs, hq, h⟩ := h
    have := oBuildSliceAt_ok hs hid hoff h (evps_ok hs.base hfr hq)
    have e1 : (ps.toList.map fun (i, x) => (i, a.eval x)).toArray = ps.map fun (i, x) => (i, a.eval x) := by apply Array.ext'; simp
    rw [e1] at this
    exact fin this
  · rw [ho]
    obtain ⟨rfl, rfl⟩ := Prod.mk.inj (Option.some.inj h)
    exact fin (makeMapAt_ok hs hid hoff)
  · cases h

theorem bnd_pairS {o : Option AV} {r : AV} {st' : St} (h : o.bnd (pairS st) = some (r, st')) : st' = st := by
  rw [bnd_eq] at h
  obtain ⟨a, _, h⟩ := h
  exact (Prod.mk.inj (Option.some.inj h)).2.symm
theorem bnd_pair {o : Option AV} {r : AV} {st' : St} (h : (o.bnd fun v => some (v, st)) = some (r, st')) : st' = st := by
  rw [bnd_eq] at h
  obtain ⟨a, _, h⟩ := h
  exact (Prod.mk.inj (Option.some.inj h)).2.symm
theorem still_conv {s d : TypeId} {x r : AV} {st' : St} (hk : opKind P (.convert s d (.const .nilIface)) ≠ .effect) (h : convert P st s d x = some (r, st')) : st' = st := by
  unfold convert at h
  simp only [opKind] at hk
  split at h
  · exact (Prod.mk.inj (Option.some.inj h)).2.symm
  · exact (Prod.mk.inj (Option.some.inj h)).2.symm
  · exact (Prod.mk.inj (Option.some.inj h)).2.symm
  · rw [bnd_eq] at h
    obtain ⟨_, _, h⟩ := h
    split at h <;> first | exact (Prod.mk.inj (Option.some.inj h)).2.symm | cases h
  · split at h
    · simp only [bnd_eq] at h
      obtain ⟨_, _, _, _, h⟩ := h
      exact (Prod.mk.inj (Option.some.inj h)).2.symm
    · simp only [bnd_eq] at h
      obtain ⟨_, _, _, _, h⟩ := h
      exact (Prod.mk.inj (Option.some.inj h)).2.symm
    · cases h
  · rename_i h1 h2
    rw [h1, h2] at hk
    simp at hk
  · rw [bnd_eq] at h
    obtain ⟨_, _, h⟩ := h
    exact (Prod.mk.inj (Option.some.inj h)).2.symm
  · rw [bnd_eq] at h
    obtain ⟨_, _, h⟩ := h
    split at h
    · split at h
      · rw [cnd_eq] at h
        exact (Prod.mk.inj (Option.some.inj h.2)).2.symm
      · cases h
    · cases h
  · exact (Prod.mk.inj (Option.some.inj h)).2.symm
  · rw [bnd_eq] at h
    obtain ⟨_, _, h⟩ := h
    split at h
    · split at h
      · rw [cnd_eq] at h
        exact (Prod.mk.inj (Option.some.inj h.2)).2.symm
      · cases h
    · cases h
  · cases h
/-- Reads and pure operations leave the state. -/
theorem still_st {C : Ctx} {ex : Exec} {op : Op} {fr : Fr} {v : AV} {st' : St} (hk : opKind C.P op = .pure ∨ opKind C.P op = .read) (h : aopO C ex op fr st = some (v, st')) : st' = st := by
  unfold aopO at h
  split at h
  all_goals first
    | (simp [opKind] at hk; done)
    | skip
  · simp only [ev1, bnd_eq, oMove, Option.some.injEq, Prod.mk.injEq] at h; obtain ⟨_, _, _, h⟩ := h; exact h.symm
  · simp only [ev1, bnd_eq, oMove, Option.some.injEq, Prod.mk.injEq] at h; obtain ⟨_, _, _, h⟩ := h; exact h.symm
  · unfold oPick at h
    split at h
    · exact bnd_pairS h
    · cases h
  · simp only [oBuild] at h; rw [bnd_eq] at h; obtain ⟨_, _, h⟩ := h; exact bnd_pairS h
  · simp only [ev1] at h; rw [bnd_eq] at h; obtain ⟨_, _, h⟩ := h
    unfold oLoad at h
    split at h
    · exact bnd_pairS h
    · cases h
  · simp only [ev1] at h; rw [bnd_eq] at h; obtain ⟨_, _, h⟩ := h
    unfold oNil at h
    split at h <;> first | exact (Prod.mk.inj (Option.some.inj h)).2.symm | cases h
  · simp only [ev2] at h; rw [bnd_eq] at h; obtain ⟨_, _, h⟩ := h; rw [bnd_eq] at h; obtain ⟨_, _, h⟩ := h
    exact bnd_pairS h
  · simp only [ev1] at h; rw [bnd_eq] at h; obtain ⟨_, _, h⟩ := h
    exact bnd_pairS h
  · simp only [ev1] at h; rw [bnd_eq] at h; obtain ⟨_, _, h⟩ := h
    refine still_conv ?_ h
    intro he
    simp only [opKind] at he hk
    rcases hk with hk | hk <;> rw [he] at hk <;> cases hk
  · simp only [ev1] at h; rw [bnd_eq] at h; obtain ⟨_, _, h⟩ := h
    unfold oIface at h
    split at h <;> first | exact (Prod.mk.inj (Option.some.inj h)).2.symm | cases h
  · unfold oFunc at h
    split at h
    · simp only [bnd_eq] at h; obtain ⟨_, _, _, _, h⟩ := h; exact (Prod.mk.inj (Option.some.inj h)).2.symm
    · cases h
  · simp only [oSlice] at h
    rw [bnd_eq] at h; obtain ⟨_, _, h⟩ := h
    rw [bnd_eq] at h; obtain ⟨_, _, h⟩ := h
    rw [bnd_eq] at h; obtain ⟨_, _, h⟩ := h
    rw [bnd_eq] at h; obtain ⟨_, _, h⟩ := h
    exact bnd_pairS h
  · simp only [ev1] at h; rw [bnd_eq] at h; obtain ⟨_, _, h⟩ := h
    unfold oFieldAddr at h
    split at h
    · simp only [bnd_eq, cnd_eq, Option.some.injEq, Prod.mk.injEq] at h; obtain ⟨_, _, _, _, _, _, h⟩ := h; exact h.symm
    · cases h
  · simp only [ev1] at h; rw [bnd_eq] at h; obtain ⟨_, _, h⟩ := h
    unfold oField at h
    split at h
    · rw [bnd_eq] at h; obtain ⟨_, _, h⟩ := h
      rw [bnd_eq] at h; obtain ⟨_, _, h⟩ := h
      exact bnd_pairS h
    · cases h
  · simp only [ev2] at h; rw [bnd_eq] at h; obtain ⟨_, _, h⟩ := h; rw [bnd_eq] at h; obtain ⟨_, _, h⟩ := h
    unfold oIndexAddr at h
    split at h
    · simp only [bnd_eq, Option.some.injEq, Prod.mk.injEq] at h; obtain ⟨_, _, _, _, _, h⟩ := h; exact h.symm
    · simp only [bnd_eq, Option.some.injEq, Prod.mk.injEq] at h; obtain ⟨_, _, _, _, _, h⟩ := h; exact h.symm
    · cases h
  · simp only [ev2] at h; rw [bnd_eq] at h; obtain ⟨_, _, h⟩ := h; rw [bnd_eq] at h; obtain ⟨_, _, h⟩ := h
    unfold oIndex at h
    split at h
    · rw [bnd_eq] at h; obtain ⟨_, _, h⟩ := h
      rw [bnd_eq] at h; obtain ⟨_, _, h⟩ := h
      exact bnd_pairS h
    · simp only [bnd_eq, Option.some.injEq, Prod.mk.injEq] at h; obtain ⟨_, _, _, h⟩ := h; exact h.symm
    · cases h
  · simp only [ev2] at h; rw [bnd_eq] at h; obtain ⟨_, _, h⟩ := h; rw [bnd_eq] at h; obtain ⟨_, _, h⟩ := h
    exact bnd_pairS h
  · simp only [ev1] at h; rw [bnd_eq] at h; obtain ⟨_, _, h⟩ := h
    unfold oExtract at h
    split at h
    · exact bnd_pairS h
    · cases h
  · rename_i c
    simp only [oCall] at h; rw [bnd_eq] at h; obtain ⟨_, _, h⟩ := h
    split at h
    · rename_i b hb
      unfold builtinOp at h
      split at h <;> first | exact bnd_pair h | (simp [opKind, hb] at hk; done) | cases h
    · rename_i f hf
      simp [opKind, hf] at hk
    · cases h

/-- A pure operation looks at no state. -/
theorem pure_st {C : Ctx} {ex : Exec} {op : Op} {fr : Fr} {v : AV} {st' : St} (hk : opKind C.P op = .pure) (h : aopO C ex op fr st = some (v, st')) (S : St) : aopO C ex op fr S = some (v, S) := by
  have hst := still_st (.inl hk) h
  subst hst
  unfold aopO at h ⊢
  split at h
  all_goals first
    | (simp [opKind] at hk; done)
    | skip
  · simp only [ev1, bnd_eq, oMove, Option.some.injEq, Prod.mk.injEq] at h ⊢; obtain ⟨x, h1, h2, _⟩ := h; exact ⟨x, h1, h2, trivial⟩
  · simp only [ev1, bnd_eq, oMove, Option.some.injEq, Prod.mk.injEq] at h ⊢; obtain ⟨x, h1, h2, _⟩ := h; exact ⟨x, h1, h2, trivial⟩
  · simp only [oPick] at h ⊢
    split at h
    · rename_i t ht
      simp only [bnd_eq, pairS, Option.some.injEq, Prod.mk.injEq] at h ⊢; obtain ⟨x, h1, h2, _⟩ := h; exact ⟨x, h1, h2, trivial⟩
    · cases h
  · simp only [oBuild, bnd_eq, pairS, Option.some.injEq, Prod.mk.injEq] at h ⊢; obtain ⟨x, h1, y, h2, h3, _⟩ := h; exact ⟨x, h1, y, h2, h3, trivial⟩
  · simp only [ev1, bnd_eq] at h ⊢; obtain ⟨x, h1, h⟩ := h
    refine ⟨x, h1, ?_⟩
    unfold oNil at h ⊢
    split at h <;> first | (obtain ⟨rfl, _⟩ := Prod.mk.inj (Option.some.inj h); rfl) | cases h
  · simp only [ev2, bnd_eq, oBin, pairS, Option.some.injEq, Prod.mk.injEq] at h ⊢; obtain ⟨x, h1, y, h2, z, h3, h4, _⟩ := h; exact ⟨x, h1, y, h2, z, h3, h4, trivial⟩
  · simp only [ev1, bnd_eq, oUn, pairS, Option.some.injEq, Prod.mk.injEq] at h ⊢; obtain ⟨x, h1, z, h3, h4, _⟩ := h; exact ⟨x, h1, z, h3, h4, trivial⟩
  · simp only [ev1, bnd_eq, oConv] at h ⊢; obtain ⟨x, h1, h⟩ := h
    refine ⟨x, h1, ?_⟩
    simp only [opKind] at hk
    unfold convert at h ⊢
    split at h <;> first | (obtain ⟨rfl, _⟩ := Prod.mk.inj (Option.some.inj h); rfl) | cases h | (simp_all; done)
  · simp only [ev1, bnd_eq] at h ⊢; obtain ⟨x, h1, h⟩ := h
    refine ⟨x, h1, ?_⟩
    unfold oIface at h ⊢
    split at h <;> first | (obtain ⟨rfl, _⟩ := Prod.mk.inj (Option.some.inj h); rfl) | cases h
  · unfold oFunc at h ⊢
    split at h
    · simp only [bnd_eq, Option.some.injEq, Prod.mk.injEq] at h ⊢; obtain ⟨x, h1, y, h2, h3, _⟩ := h; exact ⟨x, h1, y, h2, h3, trivial⟩
    · cases h
  · simp only [ev1, bnd_eq] at h ⊢; obtain ⟨x, h1, h⟩ := h
    refine ⟨x, h1, ?_⟩
    unfold oFieldAddr at h ⊢
    split at h
    · simp only [bnd_eq, cnd_eq, Option.some.injEq, Prod.mk.injEq] at h ⊢; obtain ⟨a1, b1, a2, b2, b3, h, _⟩ := h; exact ⟨a1, b1, a2, b2, b3, h, trivial⟩
    · cases h
  · simp only [ev1, bnd_eq] at h ⊢; obtain ⟨x, h1, h⟩ := h
    refine ⟨x, h1, ?_⟩
    unfold oField at h ⊢
    split at h
    · simp only [bnd_eq, pairS, Option.some.injEq, Prod.mk.injEq] at h ⊢; obtain ⟨a1, b1, a2, b2, a3, b3, h, _⟩ := h; exact ⟨a1, b1, a2, b2, a3, b3, h, trivial⟩
    · cases h
  · simp only [ev2, bnd_eq] at h ⊢; obtain ⟨x, h1, y, h2, h⟩ := h
    refine ⟨x, h1, y, h2, ?_⟩
    unfold oIndexAddr at h ⊢
    split at h
    · simp only [bnd_eq, Option.some.injEq, Prod.mk.injEq] at h ⊢; obtain ⟨a1, b1, a2, b2, h, _⟩ := h; exact ⟨a1, b1, a2, b2, h, trivial⟩
    · simp only [bnd_eq, Option.some.injEq, Prod.mk.injEq] at h ⊢; obtain ⟨a1, b1, a2, b2, h, _⟩ := h; exact ⟨a1, b1, a2, b2, h, trivial⟩
    · cases h
  · simp only [ev2, bnd_eq] at h ⊢; obtain ⟨x, h1, y, h2, h⟩ := h
    refine ⟨x, h1, y, h2, ?_⟩
    unfold oIndex at h ⊢
    split at h
    · simp only [bnd_eq, pairS, Option.some.injEq, Prod.mk.injEq] at h ⊢; obtain ⟨a1, b1, a2, b2, a3, b3, h, _⟩ := h; exact ⟨a1, b1, a2, b2, a3, b3, h, trivial⟩
    · simp only [bnd_eq, Option.some.injEq, Prod.mk.injEq] at h ⊢; obtain ⟨a1, b1, h, _⟩ := h; exact ⟨a1, b1, h, trivial⟩
    · cases h
  · simp only [ev1, bnd_eq] at h ⊢; obtain ⟨x, h1, h⟩ := h
    refine ⟨x, h1, ?_⟩
    unfold oExtract at h ⊢
    split at h
    · simp only [bnd_eq, pairS, Option.some.injEq, Prod.mk.injEq] at h ⊢; obtain ⟨a1, b1, h, _⟩ := h; exact ⟨a1, b1, h, trivial⟩
    · cases h
  · rename_i c
    simp only [oCall, bnd_eq] at h ⊢; obtain ⟨x, h1, h⟩ := h
    refine ⟨x, h1, ?_⟩
    split at h
    · rename_i b hb
      simp only [opKind, hb] at hk
      unfold builtinOp at h ⊢
      split at h <;> first | (simp at hk; done) | (simp only [bnd_eq, Option.some.injEq, Prod.mk.injEq] at h ⊢; obtain ⟨a1, b1, h, _⟩ := h; exact ⟨a1, b1, h, trivial⟩) | cases h
    · rename_i f hf
      simp [opKind, hf] at hk
    · cases h
end Go.AE

namespace Go.AE
open Go Go.RowKit

variable {P : Program} {φ : Emb} {w : World} {B0 : Nat} {st : St}

/-! Values that are the same -/
theorem optEq_eq {a b : Option Nat} (h : optEq a b = true) : a = b := by
  unfold optEq at h
  split at h
  · rfl
  · rw [beq_true] at h; rw [h]
  · cases h
theorem same1_eq {a b : AV} (h : same1 a b = true) : a = b := by
  unfold same1 at h
  split at h
  · rw [eq_of_beq h]
  · simp only [Bool.and_eq_true, kindEq_eq, ieqb_eq, decide_eq_true_eq] at h; rw [h.1, h.2]
  · rw [eqL_eq, decide_eq_true_eq] at h; rw [h]
  all_goals first
    | rfl
    | cases h
    | skip
  · simp only [Bool.and_eq_true, beq_true] at h; rw [h.1, h.2]
  · simp only [Bool.and_eq_true, beq_true] at h; rw [h.1.1.1, h.1.1.2, h.1.2, optEq_eq h.2]
  · rw [beq_true] at h; rw [h]
theorem sameL_eq : ∀ {a b : List AV}, sameL a b = true → a = b
  | [], [], _ => rfl
  | [], _ :: _, h => by simp [sameL] at h
  | _ :: _, [], h => by simp [sameL] at h
  | a :: x, b :: y, h => by
    simp only [sameL, Bool.and_eq_true] at h
    rw [same1_eq h.1, sameL_eq h.2]
theorem sameA_eq {a b : AV} (h : sameA a b = true) : a = b := by
  unfold sameA at h
  split at h
  · rw [sameL_eq h]
  · exact same1_eq h
theorem sameAL_eq : ∀ {a b : List AV}, sameAL a b = true → a = b
  | [], [], _ => rfl
  | [], _ :: _, h => by simp [sameAL] at h
  | _ :: _, [], h => by simp [sameAL] at h
  | a :: x, b :: y, h => by
    simp only [sameAL, Bool.and_eq_true] at h
    rw [sameA_eq h.1, sameAL_eq h.2]
theorem sameV_eq {a b : AV} (h : sameV a b = true) : a = b := by
  unfold sameV at h
  split at h
  · rw [sameAL_eq h]
  · exact sameA_eq h

/-! A frame that is masked -/
theorem maskT_get (fr : Fr) : ∀ (ts : List Tmp) (t : T AV) (x : Nat), (maskT fr ts t).get x = if x ∈ ts then some (fr.get x) else t.get x
  | [], t, x => by simp [maskT]
  | y :: r, t, x => by
    rw [maskT, T.get_set, maskT_get fr r t x]
    by_cases e : x = y
    · subst e; simp
    · rw [if_neg e]; simp [e]
theorem maskFr_get (ts : List Tmp) (fr : Fr) (x : Nat) : (maskFr ts fr).get x = if x ∈ ts then fr.get x else .tup [] := by
  show ((maskT fr ts .nil).get x).getD (.tup []) = _
  rw [maskT_get]
  by_cases e : x ∈ ts
  · rw [if_pos e, if_pos e]; rfl
  · rw [if_neg e, if_neg e]; simp [T.get]
theorem tmpsIn_mem : ∀ {xs : List Operand} {t : Tmp}, .tmp t ∈ xs → t ∈ tmpsIn xs
  | x :: r, t, h => by
    rcases List.mem_cons.1 h with rfl | h
    · simp [tmpsIn]
    · have := tmpsIn_mem h
      unfold tmpsIn
      split
      · exact List.mem_cons_of_mem _ this
      · exact this

/-! What stands before an operation -/
theorem maskOf_bit {acc : List Nat} {k : Nat} : ∀ {es : List Edge}, (maskOf acc es).testBit k = true → ∃ e ∈ es, Region.binds .any e = true ∧ (k = e.on ∨ ((nth acc e.on).getD 0).testBit k = true)
  | [], h => by simp [maskOf] at h
  | e :: es, h => by
    simp only [maskOf] at h
    cases hb : Region.binds .any e with
    | false =>
      rw [hb] at h
      simp only [cnd_false] at h
      obtain ⟨e', h1, h2⟩ := maskOf_bit h
      exact ⟨e', List.mem_cons_of_mem _ h1, h2⟩
    | true =>
      rw [hb] at h
      simp only [cnd_true] at h
      have h : (Nat.testBit ((2 ^ e.on ||| (nth acc e.on).getD 0) ||| maskOf acc es) k) = true := h
      simp only [Nat.testBit_or, Nat.testBit_two_pow, Bool.or_eq_true, decide_eq_true_eq] at h
      rcases h with (h | h) | h
      · exact ⟨e, by simp, hb, .inl h.symm⟩
      · exact ⟨e, by simp, hb, .inr h⟩
      · obtain ⟨e', h1, h2⟩ := maskOf_bit h
        exact ⟨e', List.mem_cons_of_mem _ h1, h2⟩
theorem bef_spec : ∀ (l : List Oper) (acc : List Nat), (bef l acc).length = acc.length + l.length ∧ (∀ i : Nat, i < acc.length → (bef l acc)[i]? = acc[i]?) ∧
    ∀ (j : Nat) (o : Oper), l[j]? = some o → ∃ a : List Nat, (bef l acc)[acc.length + j]? = some (maskOf a o.after.toList) ∧ (∀ (i m : Nat), a[i]? = some m → (bef l acc)[i]? = some m)
  | [], acc => ⟨by simp [bef], fun _ _ => rfl, fun j o h => by simp at h⟩
  | o :: r, acc => by
    obtain ⟨h1, h2, h3⟩ := bef_spec r (acc ++ [maskOf acc o.after.toList])
    rw [bef]
    refine ⟨by rw [h1]; simp; omega, fun i hi => by rw [h2 i (by simp; omega), List.getElem?_append_left hi], fun j o' hj => ?_⟩
    cases j with
    | zero =>
      simp only [List.getElem?_cons_zero, Option.some.injEq] at hj
      subst hj
      refine ⟨acc, by rw [Nat.add_zero, h2 acc.length (by simp)]; simp, fun i m hm => ?_⟩
      have hi := (List.getElem?_eq_some_iff.1 hm).1
      rw [h2 i (by simp; omega), List.getElem?_append_left hi]; exact hm
    | succ j =>
      simp only [List.getElem?_cons_succ] at hj
      obtain ⟨a, k1, k2⟩ := h3 j o' hj
      refine ⟨a, ?_, k2⟩
      simp only [List.length_append, List.length_cons, List.length_nil] at k1
      rw [show acc.length + (j + 1) = acc.length + (0 + 1) + j from by omega]
      exact k1
/-- Whatever stands before an operation stands behind one of its edges. -/
theorem bef_bit {ops : List Oper} {i k : Nat} {o : Oper} (ho : ops[i]? = some o) (h : bitAt (bef ops []) i k = true) :
    ∃ e ∈ o.after.toList, Region.binds .any e = true ∧ (k = e.on ∨ bitAt (bef ops []) e.on k = true) := by
  obtain ⟨_, _, h3⟩ := bef_spec ops []
  obtain ⟨a, k1, k2⟩ := h3 i o ho
  simp only [List.length_nil, Nat.zero_add] at k1
  unfold bitAt at h ⊢
  rw [nth_eq, k1] at h
  obtain ⟨e, h1, h2, h3⟩ := maskOf_bit h
  refine ⟨e, h1, h2, h3.imp id fun h4 => ?_⟩
  rw [nth_eq] at h4 ⊢
  cases hm : a[e.on]? with
  | none => rw [hm] at h4; simp at h4
  | some m => rw [k2 _ _ hm]; rw [hm] at h4; exact h4

/-! Temporaries -/
theorem elemN_mem {x : Nat} : ∀ {l : List Nat}, elemN x l = true ↔ x ∈ l
  | [] => by simp [elemN]
  | y :: r => by simp [elemN, elemN_mem (l := r)]
theorem apartFrom_spec {ops : List Oper} {b : List Nat} {d i : Nat} : ∀ {l : List Oper} {j0 : Nat}, apartFrom ops b d i l j0 = true → ∀ j o, l[j]? = some o → d ∈ named ops o → ordered b i (j0 + j) = true
  | [], _, _, j, o, h, _ => by simp at h
  | o :: r, j0, h, j, o', hj, hd => by
    simp only [apartFrom, Bool.and_eq_true, Bool.or_eq_true, Bool.not_eq_true'] at h
    cases j with
    | zero =>
      simp only [List.getElem?_cons_zero, Option.some.injEq] at hj
      subst hj
      rcases h.1 with h1 | h1
      · rw [elemN_mem.2 hd] at h1; cases h1
      · exact h1
    | succ j =>
      have := apartFrom_spec h.2 j o' (by simpa using hj) hd
      rwa [show Nat.succ j0 + j = j0 + (j + 1) from by omega] at this
theorem tmpsOk_spec {ops : List Oper} {b : List Nat} : ∀ {l : List Oper} {i0 : Nat}, tmpsOk ops b l i0 = true → ∀ i o d, l[i]? = some o → o.dst = some d → ∀ j o', ops[j]? = some o' → d ∈ named ops o' → ordered b (i0 + i) j = true
  | [], _, _, i, o, d, h, _, _, _, _, _ => by simp at h
  | o :: r, i0, h, i, o1, d, hi, hd, j, o', hj, hm => by
    simp only [tmpsOk, Bool.and_eq_true] at h
    cases i with
    | zero =>
      simp only [List.getElem?_cons_zero, Option.some.injEq] at hi
      subst hi
      rw [hd] at h
      have := apartFrom_spec h.1 j o' hj hm
      simpa using this
    | succ i =>
      have := tmpsOk_spec h.2 i o1 d (by simpa using hi) hd j o' hj hm
      rwa [show Nat.succ i0 + i = i0 + (i + 1) from by omega] at this
theorem ordered_lt {b : List Nat} {i j : Nat} (h : ordered b i j = true) (hlt : i < j) : bitAt b j i = true := by
  unfold ordered at h
  have h1 : Nat.beq i j = false := by cases hb : Nat.beq i j with | false => rfl | true => exact absurd (Nat.eq_of_beq_eq_true hb) (by omega)
  have h2 : Nat.blt i j = true := blt_true.2 hlt
  rw [h1, h2] at h
  simpa using h
theorem ordered_gt {b : List Nat} {i j : Nat} (h : ordered b i j = true) (hlt : j < i) : bitAt b i j = true := by
  unfold ordered at h
  have h1 : Nat.beq i j = false := by cases hb : Nat.beq i j with | false => rfl | true => exact absurd (Nat.eq_of_beq_eq_true hb) (by omega)
  have h2 : Nat.blt i j = false := by cases hb : Nat.blt i j with | false => rfl | true => exact absurd (blt_true.1 hb) (by omega)
  rw [h1, h2] at h
  simpa using h
end Go.AE

namespace Go.AE
open Go Go.RowKit

variable {C : Ctx} {ex : Exec} {base : Nat} {b : List Nat} {ops : List Oper}

theorem trace : ∀ (l : List Oper) (i : Nat) (D D' : Draw), aopsD C ex base b ops l i D = some D' → ∃ Ds : Nat → Draw, Ds i = D ∧ Ds (i + l.length) = D' ∧
    ∀ (j : Nat) (o : Oper), l[j]? = some o → dOne C ex base b ops o (i + j) (Ds (i + j)) = some (Ds (i + j + 1))
  | [], i, D, D', h => by
    simp only [aopsD, Option.some.injEq] at h
    exact ⟨fun _ => D, rfl, h, fun j o hj => by simp at hj⟩
  | o :: r, i, D, D', h => by
    simp only [aopsD, bnd_eq] at h
    obtain ⟨D1, h1, h2⟩ := h
    obtain ⟨Ds, k1, k2, k3⟩ := trace r (i + 1) D1 D' h2
    refine ⟨fun k => if k = i then D else Ds k, if_pos rfl, ?_, fun j o' hj => ?_⟩
    · rw [List.length_cons]
      dsimp only
      rw [if_neg (by omega), show i + (r.length + 1) = i + 1 + r.length from by omega]
      exact k2
    · dsimp only
      cases j with
      | zero =>
        simp only [List.getElem?_cons_zero, Option.some.injEq] at hj
        subst hj
        rw [if_pos (by omega), if_neg (by omega), Nat.add_zero, k1]
        exact h1
      | succ j =>
        have := k3 j o' (by simpa using hj)
        rw [if_neg (by omega), if_neg (by omega), show i + (j + 1) = i + 1 + j from by omega]
        exact this

noncomputable def mkd (o : Oper) (fr : Fr) : Fr := maskFr (tmpsIn o.op.operands.toList) fr
/-- One step of the textual run. -/
def StepIs (C : Ctx) (ex : Exec) (base bi : Nat) (ops : List Oper) (o : Oper) (i : Nat) (D D' : Draw) : Prop :=
  ∃ v, D.fr.put o.dst v = some D'.fr ∧
    ((wants ops D.fr o = false ∧ v = .tup [] ∧ D' = ⟨D'.fr, D.st, D.reads, D.hist, D.al, D.laid⟩) ∨
     (wants ops D.fr o = true ∧ opKind C.P o.op = .pure ∧ (∃ S, aopO C ex o.op (mkd o D.fr) D.st = some (v, S)) ∧ D' = ⟨D'.fr, D.st, D.reads, D.hist, D.al, D.laid⟩) ∨
     (wants ops D.fr o = true ∧ opKind C.P o.op = .read ∧ (∃ S, aopO C ex o.op (mkd o D.fr) D.st = some (v, S)) ∧ D' = ⟨D'.fr, D.st, (i, o.op, mkd o D.fr, v) :: D.reads, D.hist, D.al, D.laid⟩) ∨
     (wants ops D.fr o = true ∧ opKind C.P o.op = .alloc ∧ ∃ ob, aalloc C.P (mkd o D.fr) o.op (base + i) = some (v, ob) ∧ D' = ⟨D'.fr, D.st, D.reads, D.hist, (i, base + i, ob) :: D.al, D.laid⟩) ∨
     (wants ops D.fr o = true ∧ opKind C.P o.op = .effect ∧ headIn bi D.hist = true ∧ ∃ S, aopO C ex o.op (mkd o D.fr) (layIn bi D.laid D.al D.st) = some (v, S) ∧
       D' = ⟨D'.fr, S, D.reads, (i, bi, S) :: D.hist, D.al, D.laid ||| bi⟩))
theorem dOne_is {o : Oper} {i : Nat} {D D' : Draw} (h : dOne C ex base b ops o i D = some D') : StepIs C ex base ((nth b i).getD 0) ops o i D D' := by
  obtain ⟨fr, st, reads, hist, al, laid⟩ := D
  unfold dOne at h
  cases hw : wants ops fr o with
  | false =>
    have hw' : wants ops (Draw.mk fr st reads hist al laid).fr o = false := hw
    simp only [hw', cnd_false, Draw.put, bnd_eq, Option.some.injEq] at h
    obtain ⟨fr', h1, rfl⟩ := h
    exact ⟨.tup [], h1, .inl ⟨hw, rfl, rfl⟩⟩
  | true =>
    have hw' : wants ops (Draw.mk fr st reads hist al laid).fr o = true := hw
    simp only [hw', cnd_true] at h
    unfold dstep at h
    cases hk : opKind C.P o.op <;> rw [hk] at h
    · simp only [dPure, bnd_eq, Option.some.injEq] at h
      obtain ⟨⟨v, S⟩, h1, fr', h2, rfl⟩ := h
      exact ⟨v, h2, .inr (.inl ⟨hw, hk, ⟨S, h1⟩, rfl⟩)⟩
    · simp only [dRead, bnd_eq, Option.some.injEq] at h
      obtain ⟨⟨v, S⟩, h1, fr', h2, rfl⟩ := h
      exact ⟨v, h2, .inr (.inr (.inl ⟨hw, hk, ⟨S, h1⟩, rfl⟩))⟩
    · simp only [dAlloc, bnd_eq, Option.some.injEq] at h
      obtain ⟨⟨v, ob⟩, h1, fr', h2, rfl⟩ := h
      exact ⟨v, h2, .inr (.inr (.inr (.inl ⟨hw, hk, ob, h1, rfl⟩)))⟩
    · simp only [dEffect, bnd_eq, cond_eq, Option.some.injEq] at h
      obtain ⟨h0, ⟨v, S⟩, h1, fr', h2, rfl⟩ := h
      exact ⟨v, h2, .inr (.inr (.inr (.inr ⟨hw, hk, h0, S, h1, rfl⟩)))⟩

/-- The value of the last writer among those of L. -/
def IsLast (dst : Nat → Option Tmp) (val : Nat → Tmp → AV) (v0 : Tmp → AV) (L : Nat → Prop) (t : Tmp) (x : AV) : Prop :=
  (∃ j, L j ∧ dst j = some t ∧ x = val j t ∧ ∀ k, L k → dst k = some t → k ≤ j) ∨ ((∀ k, L k → dst k ≠ some t) ∧ x = v0 t)
theorem IsLast.uniq {dst : Nat → Option Tmp} {val : Nat → Tmp → AV} {v0 : Tmp → AV} {L : Nat → Prop} {t : Tmp} {x y : AV} (h : IsLast dst val v0 L t x) (k : IsLast dst val v0 L t y) : x = y := by
  rcases h with ⟨j, h1, h2, rfl, h4⟩ | ⟨h1, rfl⟩ <;> rcases k with ⟨j', k1, k2, rfl, k4⟩ | ⟨k1, rfl⟩
  · have := h4 j' k1 k2; have := k4 j h1 h2
    rw [show j = j' from by omega]
  · exact absurd h2 (k1 j h1)
  · exact absurd k2 (h1 j' k1)
  · rfl
theorem IsLast.congr {dst : Nat → Option Tmp} {val : Nat → Tmp → AV} {v0 : Tmp → AV} {L M : Nat → Prop} {t : Tmp} {x : AV} (h : IsLast dst val v0 L t x) (k : ∀ j, dst j = some t → (L j ↔ M j)) : IsLast dst val v0 M t x := by
  rcases h with ⟨j, h1, h2, rfl, h4⟩ | ⟨h1, rfl⟩
  · exact .inl ⟨j, (k j h2).1 h1, h2, rfl, fun i hi hd => h4 i ((k i hd).2 hi) hd⟩
  · exact .inr ⟨fun i hi hd => h1 i ((k i hd).2 hi) hd, rfl⟩
end Go.AE

namespace Go.AE
open Go Go.RowKit

/-- A textual run. -/
structure TR (C : Ctx) (ex : Exec) (ops : List Oper) (b : List Nat) (fr0 : Fr) (st0 : St) (Ds : Nat → Draw) : Prop where
  start : Ds 0 = ⟨fr0, resv ops.length st0, [], [], [], 0⟩
  step : ∀ (i : Nat) (o : Oper), ops[i]? = some o → StepIs C ex st0.next ((nth b i).getD 0) ops o i (Ds i) (Ds (i + 1))
def dstAt (ops : List Oper) (j : Nat) : Option Tmp := (ops[j]?).bind (·.dst)
def Eff (C : Ctx) (ops : List Oper) (Ds : Nat → Draw) (i : Nat) : Prop := ∃ o, ops[i]? = some o ∧ wants ops (Ds i).fr o = true ∧ opKind C.P o.op = .effect

variable {C : Ctx} {ex : Exec} {ops : List Oper} {b : List Nat} {fr0 : Fr} {st0 : St} {Ds : Nat → Draw}

theorem StepIs.put {base bi i : Nat} {o : Oper} {D D' : Draw} (h : StepIs C ex base bi ops o i D D') : ∃ v, D.fr.put o.dst v = some D'.fr := let ⟨v, h1, _⟩ := h; ⟨v, h1⟩
theorem put_get {fr fr' : Fr} {d : Option Tmp} {v : AV} (h : fr.put d v = some fr') : fr'.nt = fr.nt ∧ fr'.rd = fr.rd ∧ ∀ t, fr'.get t = if d = some t then v else fr.get t := by
  cases d with
  | none => simp only [Fr.put, Option.some.injEq] at h; subst h; exact ⟨rfl, rfl, fun t => by simp⟩
  | some d =>
    obtain ⟨nt, tr, rd⟩ := fr
    simp only [Fr.put, cnd_eq, Option.some.injEq] at h
    obtain ⟨_, rfl⟩ := h
    refine ⟨rfl, rfl, fun t => ?_⟩
    simp only [Fr.get, T.get_set]
    by_cases e : t = d
    · subst e; simp
    · rw [if_neg e, if_neg (by simp; exact fun h => e h.symm)]
theorem TR.frame (h : TR C ex ops b fr0 st0 Ds) : ∀ i, i ≤ ops.length → (Ds i).fr.nt = fr0.nt ∧ (Ds i).fr.rd = fr0.rd ∧
    ∀ t, IsLast (dstAt ops) (fun j t => (Ds (j + 1)).fr.get t) fr0.get (· < i) t ((Ds i).fr.get t)
  | 0, _ => by rw [h.start]; exact ⟨rfl, rfl, fun t => .inr ⟨fun k hk => absurd hk (by omega), rfl⟩⟩
  | i + 1, hi => by
    obtain ⟨h1, h2, h3⟩ := h.frame i (by omega)
    have ho : ops[i]? = some ops[i] := by simp
    obtain ⟨v, hv⟩ := (h.step i _ ho).put
    obtain ⟨p1, p2, p3⟩ := put_get hv
    refine ⟨p1.trans h1, p2.trans h2, fun t => ?_⟩
    have hd : dstAt ops i = ops[i].dst := by unfold dstAt; rw [ho]; rfl
    by_cases e : ops[i].dst = some t
    · exact .inl ⟨i, by omega, hd.trans e, rfl, fun k hk _ => by omega⟩
    · have := p3 t
      rw [if_neg e] at this
      rw [this]
      refine (h3 t).congr fun j hj => ⟨fun k => by omega, fun k => ?_⟩
      have : j ≠ i := by rintro rfl; exact e (hd ▸ hj)
      omega
theorem TR.still (h : TR C ex ops b fr0 st0 Ds) {i : Nat} (hi : i < ops.length) (hn : ¬ Eff C ops Ds i) : (Ds (i + 1)).st = (Ds i).st ∧ (Ds (i + 1)).hist = (Ds i).hist ∧ (Ds (i + 1)).laid = (Ds i).laid := by
  have ho : ops[i]? = some ops[i] := by simp
  obtain ⟨v, _, hs⟩ := h.step i _ ho
  rcases hs with ⟨_, _, hD⟩ | ⟨_, _, _, hD⟩ | ⟨_, _, _, hD⟩ | ⟨_, _, ob, _, hD⟩ | ⟨hw, hk, _⟩
  · rw [hD]; exact ⟨rfl, rfl, rfl⟩
  · rw [hD]; exact ⟨rfl, rfl, rfl⟩
  · rw [hD]; exact ⟨rfl, rfl, rfl⟩
  · rw [hD]; exact ⟨rfl, rfl, rfl⟩
  · exact absurd ⟨_, ho, hw, hk⟩ hn
theorem TR.still_to (h : TR C ex ops b fr0 st0 Ds) {t : Nat} : ∀ k, t + k ≤ ops.length → (∀ e, t ≤ e → e < t + k → ¬ Eff C ops Ds e) → (Ds (t + k)).st = (Ds t).st ∧ (Ds (t + k)).hist = (Ds t).hist ∧ (Ds (t + k)).laid = (Ds t).laid
  | 0, _, _ => ⟨rfl, rfl, rfl⟩
  | k + 1, hk, hn => by
    obtain ⟨h1, h2, h3⟩ := h.still_to k (by omega) fun e h1 h2 => hn e h1 (by omega)
    obtain ⟨k1, k2, k3⟩ := h.still (i := t + k) (by omega) (hn _ (by omega) (by omega))
    exact ⟨k1.trans h1, k2.trans h2, k3.trans h3⟩
/-- The block that operation j made. -/
noncomputable def look : List (Nat × Nat × AObj) → Nat → Option AObj
  | [], _ => none
  | (i, _, o) :: r, j => if i = j then some o else look r j
theorem TR.al (h : TR C ex ops b fr0 st0 Ds) : ∀ i, i ≤ ops.length → (∀ x ∈ (Ds i).al, x.1 < i ∧ x.2.1 = st0.next + x.1 ∧ x.2.2.fam = none ∧ look (Ds i).al x.1 = some x.2.2) ∧
    (∀ j o, look (Ds i).al j = some o → (j, st0.next + j, o) ∈ (Ds i).al)
  | 0, _ => by rw [h.start]; exact ⟨fun x hx => by simp at hx, fun j o hj => by simp [look] at hj⟩
  | i + 1, hi => by
    obtain ⟨h1, h2⟩ := h.al i (by omega)
    have ho : ops[i]? = some ops[i] := by simp
    have same : (Ds (i + 1)).al = (Ds i).al → (∀ x ∈ (Ds (i + 1)).al, x.1 < i + 1 ∧ x.2.1 = st0.next + x.1 ∧ x.2.2.fam = none ∧ look (Ds (i + 1)).al x.1 = some x.2.2) ∧
        (∀ j o, look (Ds (i + 1)).al j = some o → (j, st0.next + j, o) ∈ (Ds (i + 1)).al) := by
      intro e
      rw [e]
      exact ⟨fun x hx => let ⟨a1, a2, a3, a4⟩ := h1 x hx; ⟨by omega, a2, a3, a4⟩, h2⟩
    obtain ⟨v, _, hs⟩ := h.step i _ ho
    rcases hs with ⟨_, _, hD⟩ | ⟨_, _, _, hD⟩ | ⟨_, _, _, hD⟩ | ⟨_, _, ob, hal, hD⟩ | ⟨_, _, _, S, _, hD⟩
    · exact same (by rw [hD])
    · exact same (by rw [hD])
    · exact same (by rw [hD])
    · have e : (Ds (i + 1)).al = (i, st0.next + i, ob) :: (Ds i).al := by rw [hD]
      rw [e]
      refine ⟨fun x hx => ?_, fun j o hj => ?_⟩
      · rcases List.mem_cons.1 hx with rfl | hx
        · exact ⟨by simp, rfl, aalloc_fam hal, by simp [look]⟩
        · obtain ⟨a1, a2, a3, a4⟩ := h1 x hx
          exact ⟨by omega, a2, a3, by rw [look, if_neg (by omega)]; exact a4⟩
      · rw [look] at hj
        by_cases e2 : i = j
        · rw [if_pos e2] at hj
          obtain rfl := Option.some.inj hj
          subst e2
          exact List.mem_cons_self
        · rw [if_neg e2] at hj
          exact List.mem_cons_of_mem _ (h2 j o hj)
    · exact same (by rw [hD])
end Go.AE

namespace Go.AE
open Go Go.RowKit

variable {C : Ctx} {ex : Exec} {ops : List Oper} {b : List Nat} {fr0 : Fr} {st0 : St} {Ds : Nat → Draw}

theorem TR.look_up (h : TR C ex ops b fr0 st0 Ds) {j i : Nat} (hj : j < i) : ∀ k, i + k ≤ ops.length → look (Ds (i + k)).al j = look (Ds i).al j
  | 0, _ => rfl
  | k + 1, hk => by
    have ih := h.look_up hj k (by omega)
    have ho : ops[i + k]? = some ops[i + k] := by simp
    obtain ⟨v, _, hs⟩ := h.step (i + k) _ ho
    rw [← ih]
    rcases hs with ⟨_, _, hD⟩ | ⟨_, _, _, hD⟩ | ⟨_, _, _, hD⟩ | ⟨_, _, ob, hal, hD⟩ | ⟨_, _, _, S, _, hD⟩
    · rw [show i + (k + 1) = i + k + 1 from rfl, hD]
    · rw [show i + (k + 1) = i + k + 1 from rfl, hD]
    · rw [show i + (k + 1) = i + k + 1 from rfl, hD]
    · have e : (Ds (i + k + 1)).al = (i + k, st0.next + (i + k), ob) :: (Ds (i + k)).al := by rw [hD]
      rw [show i + (k + 1) = i + k + 1 from rfl, e, look, if_neg (by omega)]
    · rw [show i + (k + 1) = i + k + 1 from rfl, hD]
theorem layIn_next (m laid : Nat) (S : St) : ∀ al, (layIn m laid al S).next = S.next
  | [] => rfl
  | (i, id, o) :: r => by
    rw [layIn]
    cases m.testBit i && !laid.testBit i
    · exact layIn_next m laid S r
    · show ((layIn m laid r S).setObj id o).next = _
      rw [setObj_next]; exact layIn_next m laid S r
theorem layIn_fams (m laid : Nat) (S : St) : ∀ al, (layIn m laid al S).fams = S.fams
  | [] => rfl
  | (i, id, o) :: r => by
    rw [layIn]
    cases m.testBit i && !laid.testBit i
    · exact layIn_fams m laid S r
    · show ((layIn m laid r S).setObj id o).fams = _
      rw [setObj_fams]; exact layIn_fams m laid S r
theorem layIn_cases {m laid : Nat} {S : St} {c : Nat} {o : AObj} : ∀ {al : List (Nat × Nat × AObj)}, (layIn m laid al S).heap.get c = some o →
    (∃ x ∈ al, m.testBit x.1 = true ∧ laid.testBit x.1 = false ∧ c = x.2.1 ∧ o = x.2.2) ∨ S.heap.get c = some o
  | [], h => .inr h
  | (i, id, ob) :: r, h => by
    rw [layIn] at h
    cases hc : m.testBit i && !laid.testBit i with
    | false =>
      rw [hc] at h
      rcases layIn_cases (al := r) h with ⟨x, hx, h2⟩ | h2
      · exact .inl ⟨x, List.mem_cons_of_mem _ hx, h2⟩
      · exact .inr h2
    | true =>
      rw [hc] at h
      simp only [Bool.and_eq_true, Bool.not_eq_true'] at hc
      have h : ((layIn m laid r S).setObj id ob).heap.get c = some o := h
      rw [setObj_get] at h
      by_cases e : c = id
      · rw [if_pos e] at h
        exact .inl ⟨(i, id, ob), List.mem_cons_self, hc.1, hc.2, e, (Option.some.inj h).symm⟩
      · rw [if_neg e] at h
        rcases layIn_cases (al := r) h with ⟨x, hx, h2⟩ | h2
        · exact .inl ⟨x, List.mem_cons_of_mem _ hx, h2⟩
        · exact .inr h2
theorem layIn_off {m laid : Nat} {S : St} {c : Nat} : ∀ {al : List (Nat × Nat × AObj)}, (∀ x ∈ al, m.testBit x.1 = true → laid.testBit x.1 = false → c ≠ x.2.1) → (layIn m laid al S).heap.get c = S.heap.get c
  | [], _ => rfl
  | (i, id, ob) :: r, h => by
    rw [layIn]
    have ih := layIn_off (S := S) (al := r) fun x hx => h x (List.mem_cons_of_mem _ hx)
    cases hc : m.testBit i && !laid.testBit i with
    | false => exact ih
    | true =>
      simp only [Bool.and_eq_true, Bool.not_eq_true'] at hc
      show ((layIn m laid r S).setObj id ob).heap.get c = _
      rw [setObj_get, if_neg (h _ List.mem_cons_self hc.1 hc.2)]
      exact ih
theorem layRest_next (laid : Nat) (S : St) : ∀ al, (layRest laid al S).next = S.next
  | [] => rfl
  | (i, id, o) :: r => by
    rw [layRest]
    cases laid.testBit i
    · show ((layRest laid r S).setObj id o).next = _
      rw [setObj_next]; exact layRest_next laid S r
    · exact layRest_next laid S r
theorem layRest_fams (laid : Nat) (S : St) : ∀ al, (layRest laid al S).fams = S.fams
  | [] => rfl
  | (i, id, o) :: r => by
    rw [layRest]
    cases laid.testBit i
    · show ((layRest laid r S).setObj id o).fams = _
      rw [setObj_fams]; exact layRest_fams laid S r
    · exact layRest_fams laid S r
theorem layRest_cases {laid : Nat} {S : St} {c : Nat} {o : AObj} : ∀ {al : List (Nat × Nat × AObj)}, (layRest laid al S).heap.get c = some o →
    (∃ x ∈ al, laid.testBit x.1 = false ∧ c = x.2.1 ∧ o = x.2.2) ∨ ((∀ x ∈ al, laid.testBit x.1 = false → c ≠ x.2.1) ∧ S.heap.get c = some o)
  | [], h => .inr ⟨fun x hx => by simp at hx, h⟩
  | (i, id, ob) :: r, h => by
    rw [layRest] at h
    cases hc : laid.testBit i with
    | true =>
      rw [hc] at h
      rcases layRest_cases (al := r) h with ⟨x, hx, h2⟩ | ⟨h1, h2⟩
      · exact .inl ⟨x, List.mem_cons_of_mem _ hx, h2⟩
      · refine .inr ⟨fun x hx hl => ?_, h2⟩
        rcases List.mem_cons.1 hx with rfl | hx
        · rw [hc] at hl; cases hl
        · exact h1 x hx hl
    | false =>
      rw [hc] at h
      have h : ((layRest laid r S).setObj id ob).heap.get c = some o := h
      rw [setObj_get] at h
      by_cases e : c = id
      · rw [if_pos e] at h
        exact .inl ⟨(i, id, ob), List.mem_cons_self, hc, e, (Option.some.inj h).symm⟩
      · rw [if_neg e] at h
        rcases layRest_cases (al := r) h with ⟨x, hx, h2⟩ | ⟨h1, h2⟩
        · exact .inl ⟨x, List.mem_cons_of_mem _ hx, h2⟩
        · refine .inr ⟨fun x hx hl => ?_, h2⟩
          rcases List.mem_cons.1 hx with rfl | hx
          · exact e
          · exact h1 x hx hl
end Go.AE
