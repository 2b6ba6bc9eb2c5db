/- The abstract evaluator at values that are not known: the rules of a walk. -/
import Derived.Test.YtjnahfpnehmehaaGreatDoorAeF
import Derived.KernelRfl
namespace Go.AE
open Go Go.RowKit

/-! From some fuel on -/
def Evt {α : Type} (p : Nat → Option α) (r : α) : Prop := ∃ N, ∀ n, N ≤ n → p n = some r
theorem Evt.const {α : Type} {p : Nat → Option α} {r : α} (h : ∀ n, p n = some r) : Evt p r := ⟨0, fun n _ => h n⟩
theorem Evt.bnd {α β : Type} {p : Nat → Option α} {k : Nat → α → Option β} {a : α} {r : β} (h : Evt p a) (hk : Evt (fun n => k n a) r) : Evt (fun n => (p n).bnd (k n)) r := by
  obtain ⟨N, hN⟩ := h
  obtain ⟨M, hM⟩ := hk
  exact ⟨max N M, fun n hn => by show (p n).bnd (k n) = some r; rw [hN n (by omega)]; exact hM n (by omega)⟩
theorem Evt.succ {α : Type} {p : Nat → Option α} {r : α} (h : Evt (fun n => p (n + 1)) r) : Evt p r := by
  obtain ⟨N, hN⟩ := h
  refine ⟨N + 1, fun n hn => ?_⟩
  obtain ⟨m, rfl⟩ : ∃ m, n = m + 1 := ⟨n - 1, by omega⟩
  exact hN m (by omega)

/-! Frames of which some is known -/
abbrev Env := List (Nat × AV)
def lookE (t : Nat) : Env → Option AV
  | [] => none
  | (d, v) :: r => bif Nat.beq t d then some v else lookE t r
structure FrIs (nt : Nat) (rd : Option Nat) (env : Env) (fr : Fr) : Prop where
  nt : fr.nt = nt
  rd : fr.rd = rd
  val : ∀ t v, lookE t env = some v → fr.get t = v
theorem lookE_cons {t d : Nat} {v : AV} {env : Env} : lookE t ((d, v) :: env) = if t = d then some v else lookE t env := by
  show (bif Nat.beq t d then some v else lookE t env) = _
  by_cases h : t = d
  · rw [if_pos h, beq_true.2 h]; rfl
  · have : Nat.beq t d = false := by
      cases hb : Nat.beq t d with
      | false => rfl
      | true => exact absurd (beq_true.1 hb) h
    rw [if_neg h, this]; rfl
theorem FrIs.put {nt : Nat} {rd : Option Nat} {env : Env} {fr : Fr} (h : FrIs nt rd env fr) {d : Nat} (hd : Nat.blt d nt = true) (v : AV) : ∃ fr', fr.put (some d) v = some fr' ∧ FrIs nt rd ((d, v) :: env) fr' := by
  obtain ⟨n, t, r⟩ := fr
  obtain ⟨h1, h2, h3⟩ := h
  subst h1
  refine ⟨⟨n, t.set d v, r⟩, by simp only [Fr.put]; rw [show Nat.blt d n = true from hd]; rfl, rfl, h2, fun k u hk => ?_⟩
  rw [lookE_cons] at hk
  simp only [Fr.get, T.get_set]
  by_cases e : k = d
  · rw [if_pos e] at hk ⊢
    exact Option.some.inj hk
  · rw [if_neg e] at hk ⊢
    exact h3 k u hk
noncomputable def evE (env : Env) : Operand → Option AV
  | .tmp t => lookE t env
  | .const v => absC v
  | .global g => cnd (Nat.blt g 64) (some (.ptr g 0)) none
  | .func f => some (.func (.func f) [] [])
theorem evE_ok {nt : Nat} {rd : Option Nat} {env : Env} {fr : Fr} (h : FrIs nt rd env fr) {x : Operand} {v : AV} (hx : evE env x = some v) : ev fr x = some v := by
  cases x with
  | tmp t => show some (fr.get t) = some v; rw [h.val t v hx]
  | const c => exact hx
  | global g => exact hx
  | func f => exact hx

/-! Operations, by what their operands are -/
abbrev Rho := Operand → Option AV
noncomputable def evsR (ρ : Rho) : List Operand → Option (List AV)
  | [] => some []
  | x :: xs => (ρ x).bnd fun v => (evsR ρ xs).bnd fun vs => some (v :: vs)
noncomputable def evpsR (ρ : Rho) : List (Nat × Operand) → Option (List (Nat × AV))
  | [] => some []
  | p :: xs => (ρ p.2).bnd fun v => (evpsR ρ xs).bnd fun vs => some ((p.1, v) :: vs)
noncomputable def evOR (ρ : Rho) : Option Operand → Option (Option AV)
  | none => some none
  | some x => (ρ x).bnd fun v => some (some v)
noncomputable def aopR (P : Program) (ρ : Rho) (st : St) : Op → Option (AV × St)
  | .move x => (ρ x).bnd fun v => some (v, st)
  | .assign x => (ρ x).bnd fun v => some (v, st)
  | .pick c a b => (ρ c).bnd fun t => match t with
    | .bool t => (ρ (cnd t a b)).bnd fun v => some (v, st)
    | _ => none
  | .alloc e => lay st (oAlloc P e st.next)
  | .box e x => (ρ x).bnd fun v => lay st (oBox e v st.next)
  | .build t ps => (evpsR ρ ps.toList).bnd fun ps => (build P t ps).bnd fun v => some (v, st)
  | .buildSlice t n ps => (evpsR ρ ps.toList).bnd fun ps => lay st (oBuildSlice P t n ps st.next)
  | .load t a => (ρ a).bnd fun v => oLoad P t v st
  | .store t a x => (ρ a).bnd fun v => (ρ x).bnd fun u => oStore P t v u st
  | .nilCheck x => (ρ x).bnd fun v => oNil v st
  | .binOp op t x y _ => (ρ x).bnd fun v => (ρ y).bnd fun u => (binOp P op t v u).bnd fun r => some (r, st)
  | .unOp op _ x => (ρ x).bnd fun v => (unOp op v).bnd fun r => some (r, st)
  | .convert s d x => (ρ x).bnd fun v => convert P st s d v
  | .makeFunc fn a b => match fn with
    | .func f => (evsR ρ a.toList).bnd fun a => (evsR ρ b.toList).bnd fun b => some (.func (.func f) a b, st)
    | _ => none
  | .makeMap _ none => lay st (some (.map st.next, .map []))
  | .makeSlice t l c => (ρ l).bnd fun v => (ρ c).bnd fun u => oMakeSlice P t v u st
  | .slice t x lo hi mx => (ρ x).bnd fun x => (evOR ρ lo).bnd fun lo => (evOR ρ hi).bnd fun hi => (evOR ρ mx).bnd fun mx => (sliceOp P st t x lo hi mx).bnd fun v => some (v, st)
  | .fieldAddr s x f => (ρ x).bnd fun v => oFieldAddr P s f v st
  | .field t x f => (ρ x).bnd fun v => oField P t f v st
  | .indexAddr t x i => (ρ x).bnd fun v => (ρ i).bnd fun u => oIndexAddr P t v u st
  | .index t x i => (ρ x).bnd fun v => (ρ i).bnd fun u => oIndex P t v u st
  | .lookup t x i ok => (ρ x).bnd fun v => (ρ i).bnd fun u => oLookup P t ok v u st
  | .mapUpdate t m k x => (ρ m).bnd fun v => (ρ k).bnd fun u => (ρ x).bnd fun w => oUpdate P t v u w st
  | .range t x => (ρ x).bnd fun v => oRange P t v st
  | .next x isS => (ρ x).bnd fun v => oNext isS v st
  | .extract x i => (ρ x).bnd fun v => oExtract i v st
  | .call c => match c.callee with
    | .builtin b => (evsR ρ c.args.toList).bnd fun args => builtinOp P st b c.argTypes.toList args
    | _ => none
  | _ => none

section
variable {fr : Fr} {ρ : Rho} (hρ : ∀ x v, ρ x = some v → ev fr x = some v)
include hρ
theorem evsR_ok : ∀ {xs : List Operand} {vs : List AV}, evsR ρ xs = some vs → evs fr xs = some vs
  | [], vs, h => h
  | x :: xs, vs, h => by
    simp only [evsR, bnd_eq] at h
    obtain ⟨v, h1, us, h2, h3⟩ := h
    simp only [evs, hρ x v h1, evsR_ok h2, bnd_some]
    exact h3
theorem evpsR_ok : ∀ {xs : List (Nat × Operand)} {vs : List (Nat × AV)}, evpsR ρ xs = some vs → evps fr xs = some vs
  | [], vs, h => h
  | (i, x) :: xs, vs, h => by
    simp only [evpsR, bnd_eq] at h
    obtain ⟨v, h1, us, h2, h3⟩ := h
    simp only [evps, hρ x v h1, evpsR_ok h2, bnd_some]
    exact h3
theorem evOR_ok {x : Option Operand} {v : Option AV} (h : evOR ρ x = some v) : evO fr x = some v := by
  cases x with
  | none => exact h
  | some x =>
    simp only [evOR, bnd_eq] at h
    obtain ⟨u, h1, h2⟩ := h
    simp only [evO, hρ x u h1, bnd_some]
    exact h2
theorem aopR_ok {C : Ctx} (ex : Exec) {op : Op} {st : St} {r : AV × St} (h : aopR C.P ρ st op = some r) : aopO C ex op fr st = some r := by
  unfold aopR at h
  split at h
  all_goals first
    | (cases h; done)
    | skip
  all_goals try simp only [bnd_eq] at h
  all_goals first
    | (obtain ⟨v, h1, u, h2, w, h3, h⟩ := h; simp only [aopO, ev3, hρ _ _ h1, hρ _ _ h2, hρ _ _ h3, bnd_some]; exact h; done)
    | (obtain ⟨v, h1, u, h2, h⟩ := h; simp only [aopO, ev2, hρ _ _ h1, hρ _ _ h2, bnd_some]; exact h; done)
    | (obtain ⟨v, h1, h⟩ := h; simp only [aopO, ev1, hρ _ _ h1, bnd_some]; exact h; done)
    | (exact h; done)
    | skip
  · obtain ⟨t, h1, h⟩ := h
    split at h
    · rename_i b
      simp only [bnd_eq] at h
      obtain ⟨v, h2, h⟩ := h
      have h3 := hρ _ _ h2
      simp only [aopO, oPick, hρ _ _ h1]
      show (ev fr (cnd b _ _)).bnd (pairS st) = some r
      rw [h3]
      exact h
    · cases h
  · obtain ⟨ps, h1, v, h2, h⟩ := h
    simp only [aopO, oBuild, evpsR_ok hρ h1, h2, bnd_some, pairS]
    exact h
  · obtain ⟨ps, h1, h⟩ := h
    simp only [aopO, evpsR_ok hρ h1, bnd_some]
    exact h
  · obtain ⟨v, h1, u, h2, r', h3, h⟩ := h
    simp only [aopO, ev2, oBin, hρ _ _ h1, hρ _ _ h2, h3, bnd_some, pairS]
    exact h
  · obtain ⟨v, h1, r', h3, h⟩ := h
    simp only [aopO, ev1, oUn, hρ _ _ h1, h3, bnd_some, pairS]
    exact h
  · split at h
    · simp only [bnd_eq] at h
      obtain ⟨a, h1, b, h2, h⟩ := h
      simp only [aopO, oFunc, evsR_ok hρ h1, evsR_ok hρ h2, bnd_some]
      exact h
    · cases h
  · obtain ⟨x, h1, lo, h2, hi, h3, mx, h4, v, h5, h⟩ := h
    simp only [aopO, oSlice, hρ _ _ h1, evOR_ok hρ h2, evOR_ok hρ h3, evOR_ok hρ h4, h5, bnd_some, pairS]
    exact h
  · rename_i c
    split at h
    · rename_i b hb
      simp only [bnd_eq] at h
      obtain ⟨a, h1, h⟩ := h
      simp only [aopO, oCall, hb, evsR_ok hρ h1, bnd_some]
      exact h
    · cases h
end
end Go.AE

namespace Go.AE
open Go Go.RowKit

/-! Code without what the evaluator does not look at -/
structure SO where
  op : Op
  dst : Option Tmp
  g : Option (Tmp × Bool)
inductive SC where
  | skip
  | ret
  | exit (i : Nat)
  | seq (a b : SC)
  | cond (x : Operand) (a b : SC)
  | block (i : Nat) (a : SC)
  | loop (a : SC)
  | region (l : List SO)
  | draw (l : List SO) (b : List Nat) (ok : Bool)
  | rangeFunc (g : Operand) (ps : List Tmp) (a b : SC)
  | bad
noncomputable def soOf (ops : List Oper) (o : Oper) : Option SO :=
  match o.guard with
  | none => some ⟨o.op, o.dst, none⟩
  | some (j, w) => match (nth ops j).bind (·.dst) with
    | some d => some ⟨o.op, o.dst, some (d, w)⟩
    | none => none
noncomputable def soL (ops : List Oper) : List Oper → Option (List SO)
  | [] => some []
  | o :: r => match soOf ops o, soL ops r with
    | some a, some l => some (a :: l)
    | _, _ => none
noncomputable def SC.of : Code → SC
  | .skip => .skip
  | .label _ => .skip
  | .ret => .ret
  | .exit i => .exit i
  | .seq a b => .seq (SC.of a) (SC.of b)
  | .cond x a b => .cond x (SC.of a) (SC.of b)
  | .block i a => .block i (SC.of a)
  | .loop a => .loop (SC.of a)
  | .region _ ops d => match d with
    | true => match soL ops.toList ops.toList with
      | some l => .draw l (bef ops.toList []) (tmpsOk ops.toList (bef ops.toList []) ops.toList 0 && backOk (bef ops.toList []) 0)
      | none => .bad
    | false => match soL ops.toList ops.toList with
      | some l => .region l
      | none => .bad
  | .rangeFunc g ps a b => .rangeFunc g ps.toList (SC.of a) (SC.of b)
  | _ => .bad

section
variable (C : Ctx) (nt : Nat) (rd : Option Nat)
abbrev Post3 := Ex → Env → St → Prop
/-- The code, from a frame of which this is known, comes to an end at which Q. -/
def W (sc : SC) (env : Env) (st : St) (Q : Post3) : Prop :=
  ∀ c, SC.of c = sc → ∀ fr, FrIs nt rd env fr → ∃ e fr' st', Evt (fun n => aexec C n c fr st) (e, fr', st') ∧ ∃ env', FrIs nt rd env' fr' ∧ Q e env' st'
inductive Kont where
  | seq (b : SC)
  | block (i : Nat)
def after : List Kont → Post3 → Post3
  | [], Q => Q
  | .seq b :: ks, Q => fun e env st => match e with
    | .normal => W C nt rd b env st (after ks Q)
    | e => after ks Q e env st
  | .block i :: ks, Q => fun e env st => match e with
    | .exit j => if j = i then after ks Q .normal env st else after ks Q (.exit j) env st
    | e => after ks Q e env st
def WK (sc : SC) (ks : List Kont) (env : Env) (st : St) (Q : Post3) : Prop := W C nt rd sc env st (after C nt rd ks Q)
end

variable {C : Ctx} {nt : Nat} {rd : Option Nat} {env : Env} {st : St} {Q : Post3} {ks : List Kont}

theorem W.mono {sc : SC} {Q' : Post3} (h : W C nt rd sc env st Q) (hq : ∀ e env st, Q e env st → Q' e env st) : W C nt rd sc env st Q' := fun c hc fr hf => by
  obtain ⟨e, fr', st', h1, env', h2, h3⟩ := h c hc fr hf
  exact ⟨e, fr', st', h1, env', h2, hq _ _ _ h3⟩
theorem Evt.step {c : Code} {fr : Fr} {r : Ex × Fr × St} (h : Evt (fun n => stepCode C (aexec C n) c fr st) r) : Evt (fun n => aexec C n c fr st) r := Evt.succ (p := fun n => aexec C n c fr st) h

theorem SC.of_region {i : Nat} {ops : Array Oper} {d : Bool} {l : List SO} (h : SC.of (.region i ops d) = .region l) : d = false ∧ soL ops.toList ops.toList = some l := by
  cases d with
  | true =>
    simp only [SC.of] at h
    split at h <;> cases h
  | false =>
    refine ⟨rfl, ?_⟩
    simp only [SC.of] at h
    split at h
    · rename_i l' hl
      rw [hl]
      exact congrArg some (SC.region.inj h)
    · cases h
theorem SC.of_cases_region {c : Code} {l : List SO} (h : SC.of c = .region l) : ∃ i ops, c = .region i ops false ∧ soL ops.toList ops.toList = some l := by
  cases c <;> simp only [SC.of, reduceCtorEq] at h
  rename_i i ops d
  obtain ⟨rfl, h2⟩ := SC.of_region (i := i) (by simpa only [SC.of] using h)
  exact ⟨i, ops, rfl, h2⟩
theorem WK.seq {a b : SC} (h : WK C nt rd a (.seq b :: ks) env st Q) : WK C nt rd (.seq a b) ks env st Q := by
  intro c hc fr hf
  cases c <;> simp only [SC.of, reduceCtorEq] at hc
  case region => split at hc <;> (try split at hc) <;> cases hc
  rename_i x y
  obtain ⟨ha, hb⟩ := SC.seq.inj hc
  obtain ⟨e, fr', st', h1, env', h2, h3⟩ := h x ha fr hf
  cases e with
  | normal =>
    obtain ⟨e2, fr2, st2, k1, env2, k2, k3⟩ := h3 y hb fr' h2
    exact ⟨e2, fr2, st2, Evt.step (Evt.bnd h1 k1), env2, k2, k3⟩
  | exit i => exact ⟨.exit i, fr', st', Evt.step (Evt.bnd h1 (Evt.const fun _ => rfl)), env', h2, h3⟩
  | ret => exact ⟨.ret, fr', st', Evt.step (Evt.bnd h1 (Evt.const fun _ => rfl)), env', h2, h3⟩
theorem WK.skip (h : after C nt rd ks Q .normal env st) : WK C nt rd .skip ks env st Q := by
  intro c hc fr hf
  cases c <;> simp only [SC.of, reduceCtorEq] at hc
  case region => split at hc <;> (try split at hc) <;> cases hc
  all_goals exact ⟨.normal, fr, st, Evt.step (Evt.const fun _ => rfl), env, hf, h⟩
theorem WK.ret (h : after C nt rd ks Q .ret env st) : WK C nt rd .ret ks env st Q := by
  intro c hc fr hf
  cases c <;> simp only [SC.of, reduceCtorEq] at hc
  case region => split at hc <;> (try split at hc) <;> cases hc
  all_goals exact ⟨.ret, fr, st, Evt.step (Evt.const fun _ => rfl), env, hf, h⟩
theorem WK.exit {i : Nat} (h : after C nt rd ks Q (.exit i) env st) : WK C nt rd (.exit i) ks env st Q := by
  intro c hc fr hf
  cases c <;> simp only [SC.of, reduceCtorEq] at hc
  case region => split at hc <;> (try split at hc) <;> cases hc
  obtain rfl := SC.exit.inj hc
  exact ⟨.exit _, fr, st, Evt.step (Evt.const fun _ => rfl), env, hf, h⟩
theorem WK.cond {x : Operand} {a b : SC} {t : Bool} (hx : evE env x = some (.bool t)) (h1 : t = true → WK C nt rd a ks env st Q) (h2 : t = false → WK C nt rd b ks env st Q) : WK C nt rd (.cond x a b) ks env st Q := by
  intro c hc fr hf
  cases c <;> simp only [SC.of, reduceCtorEq] at hc
  case region => split at hc <;> (try split at hc) <;> cases hc
  rename_i x' a' b'
  obtain ⟨rfl, ha, hb⟩ := SC.cond.inj hc
  have hx' := evE_ok hf hx
  cases t with
  | true =>
    obtain ⟨e, fr', st', k1, env', k2, k3⟩ := h1 rfl a' ha fr hf
    exact ⟨e, fr', st', Evt.step (by simpa only [stepCode, cCond, hx'] using k1), env', k2, k3⟩
  | false =>
    obtain ⟨e, fr', st', k1, env', k2, k3⟩ := h2 rfl b' hb fr hf
    exact ⟨e, fr', st', Evt.step (by simpa only [stepCode, cCond, hx'] using k1), env', k2, k3⟩
theorem WK.block {i : Nat} {a : SC} (h : WK C nt rd a (.block i :: ks) env st Q) : WK C nt rd (.block i a) ks env st Q := by
  intro c hc fr hf
  cases c <;> simp only [SC.of, reduceCtorEq] at hc
  case region => split at hc <;> (try split at hc) <;> cases hc
  rename_i j a'
  obtain ⟨rfl, ha⟩ := SC.block.inj hc
  obtain ⟨e, fr', st', k1, env', k2, k3⟩ := h a' ha fr hf
  cases e with
  | normal => exact ⟨.normal, fr', st', Evt.step (Evt.bnd k1 (Evt.const fun _ => rfl)), env', k2, k3⟩
  | ret => exact ⟨.ret, fr', st', Evt.step (Evt.bnd k1 (Evt.const fun _ => rfl)), env', k2, k3⟩
  | exit k =>
    have k3 : (if k = j then after C nt rd ks Q .normal env' st' else after C nt rd ks Q (.exit k) env' st') := k3
    by_cases hk : k = j
    · rw [if_pos hk] at k3
      refine ⟨.normal, fr', st', Evt.step (Evt.bnd k1 (Evt.const fun _ => ?_)), env', k2, k3⟩
      show cnd (Nat.beq k j) _ _ = _
      rw [beq_true.2 hk]; rfl
    · rw [if_neg hk] at k3
      refine ⟨.exit k, fr', st', Evt.step (Evt.bnd k1 (Evt.const fun _ => ?_)), env', k2, k3⟩
      show cnd (Nat.beq k j) _ _ = _
      have : Nat.beq k j = false := by
        cases hb : Nat.beq k j with
        | false => rfl
        | true => exact absurd (beq_true.1 hb) hk
      rw [this]; rfl
/-- One round of a loop, and the loop again. -/
theorem WK.loop {a : SC} (h : WK C nt rd a (.seq (.loop a) :: ks) env st Q) : WK C nt rd (.loop a) ks env st Q := by
  intro c hc fr hf
  cases c <;> simp only [SC.of, reduceCtorEq] at hc
  case region => split at hc <;> (try split at hc) <;> cases hc
  rename_i a'
  have ha := SC.loop.inj hc
  obtain ⟨e, fr', st', h1, env', h2, h3⟩ := h a' ha fr hf
  cases e with
  | normal =>
    obtain ⟨e2, fr2, st2, k1, env2, k2, k3⟩ := h3 (.loop a') (by simp only [SC.of, ha]) fr' h2
    exact ⟨e2, fr2, st2, Evt.step (Evt.bnd h1 k1), env2, k2, k3⟩
  | exit i => exact ⟨.exit i, fr', st', Evt.step (Evt.bnd h1 (Evt.const fun _ => rfl)), env', h2, h3⟩
  | ret => exact ⟨.ret, fr', st', Evt.step (Evt.bnd h1 (Evt.const fun _ => rfl)), env', h2, h3⟩
theorem WK.sub {sc : SC} (env' : Env) (hs : ∀ t v, lookE t env' = some v → lookE t env = some v) (h : WK C nt rd sc ks env' st Q) : WK C nt rd sc ks env st Q := by
  intro c hc fr hf
  exact h c hc fr ⟨hf.nt, hf.rd, fun t v ht => hf.val t v (hs t v ht)⟩

/-! Regions -/
theorem soL_some {all : List Oper} : ∀ {l : List Oper} {r : List SO}, soL all l = some r → (l = [] ∧ r = []) ∨ ∃ o l' s r', l = o :: l' ∧ r = s :: r' ∧ soOf all o = some s ∧ soL all l' = some r'
  | [], r, h => .inl ⟨rfl, by simpa [soL] using h.symm⟩
  | o :: l', r, h => by
    simp only [soL] at h
    split at h
    · rename_i a l h1 h2
      exact .inr ⟨o, l', a, l, rfl, (Option.some.inj h).symm, h1, h2⟩
    · cases h
/-- The rest of a region. -/
def WR (C : Ctx) (nt : Nat) (rd : Option Nat) (l : List SO) (ks : List Kont) (env : Env) (st : St) (Q : Post3) : Prop :=
  ∀ all r, soL all r = some l → ∀ fr, FrIs nt rd env fr → ∃ fr' st', Evt (fun n => aops C (aexec C n) all r fr st) (fr', st') ∧ ∃ env', FrIs nt rd env' fr' ∧ after C nt rd ks Q .normal env' st'
theorem WK.region {l : List SO} (h : WR C nt rd l ks env st Q) : WK C nt rd (.region l) ks env st Q := by
  intro c hc fr hf
  obtain ⟨i, ops, rfl, hl⟩ := SC.of_cases_region hc
  obtain ⟨fr', st', h1, env', h2, h3⟩ := h ops.toList ops.toList hl fr hf
  exact ⟨.normal, fr', st', Evt.step (Evt.bnd h1 (Evt.const fun _ => rfl)), env', h2, h3⟩
theorem WR.nil (h : after C nt rd ks Q .normal env st) : WR C nt rd [] ks env st Q := by
  intro all r hr fr hf
  rcases soL_some hr with ⟨rfl, _⟩ | ⟨_, _, _, _, _, h', _⟩
  · exact ⟨fr, st, Evt.const fun _ => rfl, env, hf, h⟩
  · cases h'
theorem after.seq_exit {i : Nat} {b : SC} (h : after C nt rd ks Q (.exit i) env st) : after C nt rd (.seq b :: ks) Q (.exit i) env st := h
theorem after.seq_ret {b : SC} (h : after C nt rd ks Q .ret env st) : after C nt rd (.seq b :: ks) Q .ret env st := h
theorem after.block_ret {i : Nat} (h : after C nt rd ks Q .ret env st) : after C nt rd (.block i :: ks) Q .ret env st := h
theorem after.block {i : Nat} (h : after C nt rd ks Q .normal env st) : after C nt rd (.block i :: ks) Q .normal env st := h
theorem after.exit {i : Nat} (h : after C nt rd ks Q .normal env st) : after C nt rd (.block i :: ks) Q (.exit i) env st := by
  show (if i = i then _ else _)
  rw [if_pos rfl]; exact h
theorem after.exit_ne {i j : Nat} (hij : j ≠ i) (h : after C nt rd ks Q (.exit j) env st) : after C nt rd (.block i :: ks) Q (.exit j) env st := by
  show (if j = i then _ else _)
  rw [if_neg hij]; exact h
theorem soOf_op {all : List Oper} {o : Oper} {s : SO} (h : soOf all o = some s) : s.op = o.op ∧ s.dst = o.dst ∧ ∀ fr : Fr, (s.g = none → wants all fr o = true) ∧ ∀ d w, s.g = some (d, w) → ∀ b, fr.get d = .bool b → wants all fr o = (b == w) := by
  unfold soOf at h
  unfold wants
  split at h
  · rename_i hg
    obtain rfl := Option.some.inj h
    rw [hg]
    exact ⟨rfl, rfl, fun fr => ⟨fun _ => rfl, fun d w hd => by cases hd⟩⟩
  · rename_i j w hg
    split at h
    · rename_i d hd
      obtain rfl := Option.some.inj h
      rw [hg]
      refine ⟨rfl, rfl, fun fr => ⟨fun hn => by (cases hn), fun d' w' hd' b hb => ?_⟩⟩
      simp only [Option.some.injEq, Prod.mk.injEq] at hd'
      obtain ⟨rfl, rfl⟩ := hd'
      unfold wantG
      have : (nth all j).bnd (·.dst) = some d := by rw [bnd_eq_bind]; exact hd
      simp only [this, hb]
    · cases h
theorem aops_cons (ex : Exec) (all : List Oper) (o : Oper) (r : List Oper) (fr : Fr) (st : St) : aops C ex all (o :: r) fr st = cnd (wants all fr o) ((aop C ex fr st o).bnd (putK o.dst fr (aops C ex all r))) (putK o.dst fr (aops C ex all r) (.tup [], st)) := rfl
/-- An operation, whatever it is. -/
theorem WR.any {s : SO} {l : List SO} {d : Tmp} (hd : s.dst = some d) (hlt : Nat.blt d nt = true) (hg : s.g = none ∨ ∃ t w, s.g = some (t, w) ∧ lookE t env = some (.bool w)) {v : AV} {st' : St}
    (h : ∀ o : Oper, o.op = s.op → ∀ fr, FrIs nt rd env fr → Evt (fun n => aop C (aexec C n) fr st o) (v, st')) (k : WR C nt rd l ks ((d, v) :: env) st' Q) : WR C nt rd (s :: l) ks env st Q := by
  intro all r hr fr hf
  rcases soL_some hr with ⟨_, h'⟩ | ⟨o, r', s', l', rfl, h', h1, h2⟩
  · cases h'
  · obtain ⟨rfl, rfl⟩ := List.cons.inj h'
    obtain ⟨e1, e2, e3⟩ := soOf_op h1
    obtain ⟨fr1, p1, p2⟩ := hf.put hlt v
    obtain ⟨fr', st2, k1, env', k2, k3⟩ := k all r' h2 fr1 p2
    refine ⟨fr', st2, ?_, env', k2, k3⟩
    have hw : wants all fr o = true := by
      rcases hg with hg | ⟨t, w, hg, ht⟩
      · exact (e3 fr).1 hg
      · rw [(e3 fr).2 t w hg w (hf.val _ _ ht)]
        cases w <;> rfl
    have hop := h o e1.symm fr hf
    have := Evt.bnd (k := fun n => putK o.dst fr (aops C (aexec C n) all r')) hop (r := (fr', st2)) (by
      have : (fun n => putK o.dst fr (aops C (aexec C n) all r') (v, st')) = fun n => aops C (aexec C n) all r' fr1 st' := by
        funext n
        show (fr.put o.dst v).bnd _ = _
        rw [← e2, hd, p1]
        rfl
      rw [this]
      exact k1)
    obtain ⟨N, hN⟩ := this
    refine ⟨N, fun n hn => ?_⟩
    show aops C (aexec C n) all (o :: r') fr st = _
    rw [aops_cons, hw]
    exact hN n hn
/-- An operation that is no call of a function. -/
theorem WR.op {s : SO} {l : List SO} {d : Tmp} {v : AV} {st' : St} (hd : s.dst = some d) (hg : s.g = none) (h : aopR C.P (evE env) st s.op = some (v, st')) (hlt : Nat.blt d nt = true) (k : WR C nt rd l ks ((d, v) :: env) st' Q) : WR C nt rd (s :: l) ks env st Q :=
  WR.any hd hlt (.inl hg) (fun o ho fr hf => Evt.const fun n => by
    show aopO C _ o.op fr st = _
    rw [ho]
    exact aopR_ok (fun x v => evE_ok hf) _ h) k
theorem WR.opG {s : SO} {l : List SO} {d : Tmp} {v : AV} {st' : St} {t : Tmp} {w : Bool} (hd : s.dst = some d) (hg : s.g = some (t, w)) (ht : lookE t env = some (.bool w)) (h : aopR C.P (evE env) st s.op = some (v, st')) (hlt : Nat.blt d nt = true) (k : WR C nt rd l ks ((d, v) :: env) st' Q) : WR C nt rd (s :: l) ks env st Q :=
  WR.any hd hlt (.inr ⟨t, w, hg, ht⟩) (fun o ho fr hf => Evt.const fun n => by
    show aopO C _ o.op fr st = _
    rw [ho]
    exact aopR_ok (fun x v => evE_ok hf) _ h) k
/-- An operation whose guard says no. -/
theorem WR.off {s : SO} {l : List SO} {d : Tmp} {t : Tmp} {w b : Bool} (hd : s.dst = some d) (hg : s.g = some (t, w)) (ht : lookE t env = some (.bool b)) (hb : b = !w) (hlt : Nat.blt d nt = true) (k : WR C nt rd l ks ((d, .tup []) :: env) st Q) : WR C nt rd (s :: l) ks env st Q := by
  intro all r hr fr hf
  rcases soL_some hr with ⟨_, h'⟩ | ⟨o, r', s', l', rfl, h', h1, h2⟩
  · cases h'
  · obtain ⟨rfl, rfl⟩ := List.cons.inj h'
    obtain ⟨e1, e2, e3⟩ := soOf_op h1
    obtain ⟨fr1, p1, p2⟩ := hf.put hlt (.tup [])
    obtain ⟨fr', st2, k1, env', k2, k3⟩ := k all r' h2 fr1 p2
    refine ⟨fr', st2, ?_, env', k2, k3⟩
    have hw : wants all fr o = false := by
      rw [(e3 fr).2 t w hg b (hf.val _ _ ht), hb]
      cases w <;> rfl
    obtain ⟨N, hN⟩ := k1
    refine ⟨N, fun n hn => ?_⟩
    show aops C (aexec C n) all (o :: r') fr st = _
    rw [aops_cons, hw]
    show (fr.put o.dst (.tup [])).bnd _ = _
    rw [← e2, hd, p1]
    exact hN n hn
theorem soOf_off {all : List Oper} {o : Oper} {s : SO} (h : soOf all o = some s) {d : Tmp} {w : Bool} (hg : s.g = some (d, w)) {fr : Fr} (hd : fr.get d = .tup []) : wants all fr o = false := by
  unfold soOf at h
  unfold wants
  split at h
  · obtain rfl := Option.some.inj h
    cases hg
  · rename_i j w' hgo
    split at h
    · rename_i d' hd'
      obtain rfl := Option.some.inj h
      simp only [Option.some.injEq, Prod.mk.injEq] at hg
      obtain ⟨rfl, rfl⟩ := hg
      rw [hgo]
      unfold wantG
      have : (nth all j).bnd (·.dst) = some d' := by rw [bnd_eq_bind]; exact hd'
      simp only [this, hd]
    · cases h
/-- An operation whose guard has not been met. -/
theorem WR.offU {s : SO} {l : List SO} {d : Tmp} {t : Tmp} {w : Bool} (hd : s.dst = some d) (hg : s.g = some (t, w)) (ht : lookE t env = some (.tup [])) (hlt : Nat.blt d nt = true) (k : WR C nt rd l ks ((d, .tup []) :: env) st Q) : WR C nt rd (s :: l) ks env st Q := by
  intro all r hr fr hf
  rcases soL_some hr with ⟨_, h'⟩ | ⟨o, r', s', l', rfl, h', h1, h2⟩
  · cases h'
  · obtain ⟨rfl, rfl⟩ := List.cons.inj h'
    obtain ⟨e1, e2, e3⟩ := soOf_op h1
    obtain ⟨fr1, p1, p2⟩ := hf.put hlt (.tup [])
    obtain ⟨fr', st2, k1, env', k2, k3⟩ := k all r' h2 fr1 p2
    refine ⟨fr', st2, ?_, env', k2, k3⟩
    have hw : wants all fr o = false := soOf_off h1 hg (hf.val _ _ ht)
    obtain ⟨N, hN⟩ := k1
    refine ⟨N, fun n hn => ?_⟩
    show aops C (aexec C n) all (o :: r') fr st = _
    rw [aops_cons, hw]
    show (fr.put o.dst (.tup [])).bnd _ = _
    rw [← e2, hd, p1]
    exact hN n hn
/-- A store, or what else yields nothing that is kept. -/
theorem WR.op0 {s : SO} {l : List SO} {v : AV} {st' : St} (hd : s.dst = none) (hg : s.g = none) (h : aopR C.P (evE env) st s.op = some (v, st')) (k : WR C nt rd l ks env st' Q) : WR C nt rd (s :: l) ks env st Q := by
  intro all r hr fr hf
  rcases soL_some hr with ⟨_, h'⟩ | ⟨o, r', s', l', rfl, h', h1, h2⟩
  · cases h'
  · obtain ⟨rfl, rfl⟩ := List.cons.inj h'
    obtain ⟨e1, e2, e3⟩ := soOf_op h1
    obtain ⟨fr', st2, k1, env', k2, k3⟩ := k all r' h2 fr hf
    refine ⟨fr', st2, ?_, env', k2, k3⟩
    have hw : wants all fr o = true := (e3 fr).1 hg
    obtain ⟨N, hN⟩ := k1
    refine ⟨N, fun n hn => ?_⟩
    have hop : aop C (aexec C n) fr st o = some (v, st') := by
      show aopO C _ o.op fr st = _
      rw [← e1]
      exact aopR_ok (fun x v => evE_ok hf) _ h
    show aops C (aexec C n) all (o :: r') fr st = _
    rw [aops_cons, hw, hop]
    show (fr.put o.dst v).bnd _ = _
    rw [← e2, hd]
    exact hN n hn

/-! Calls -/
/-- A call comes to an end at which K. -/
def CallW (C : Ctx) (f : FuncId) (as : List AV) (st : St) (K : AV → St → Prop) : Prop := ∃ v st', Evt (fun n => acall C (aexec C n) f as st) (v, st') ∧ K v st'
theorem CallW.mono {f : FuncId} {as : List AV} {K K' : AV → St → Prop} (h : CallW C f as st K) (hk : ∀ v st', K v st' → K' v st') : CallW C f as st K' := by
  obtain ⟨v, st', h1, h2⟩ := h
  exact ⟨v, st', h1, hk v st' h2⟩
theorem CallW.sum {f : FuncId} {as : List AV} {K : AV → St → Prop} {v : AV} {st' : St} (h : C.sum f as st = some (v, st')) (hk : K v st') : CallW C f as st K :=
  ⟨v, st', Evt.const fun n => by show acall C (aexec C n) f as st = _; unfold acall; rw [h], hk⟩
theorem WR.call {s : SO} {l : List SO} {d : Tmp} {f : FuncId} {as : List AV} {c : Call} (hd : s.dst = some d) (hg : s.g = none ∨ ∃ t w, s.g = some (t, w) ∧ lookE t env = some (.bool w)) (hop : s.op = .call c) (hcal : c.callee = .value (.func f)) (hargs : evsR (evE env) c.args.toList = some as)
    (hlt : Nat.blt d nt = true) (k : CallW C f as st fun v st' => WR C nt rd l ks ((d, v) :: env) st' Q) : WR C nt rd (s :: l) ks env st Q := by
  obtain ⟨v, st', h1, h2⟩ := k
  refine WR.any hd hlt hg (fun o ho fr hf => ?_) h2
  have e : ∀ n, aop C (aexec C n) fr st o = acall C (aexec C n) f as st := by
    intro n
    show aopO C _ o.op fr st = _
    rw [ho, hop]
    simp only [aopO, oCall, hcal, evsR_ok (fun x v => evE_ok hf) hargs, bnd_some, ev, callV, List.nil_append, List.append_nil]
  obtain ⟨N, hN⟩ := h1
  exact ⟨N, fun n hn => (e n).trans (hN n hn)⟩

noncomputable def resE (P : Program) (env : Env) (st : St) : List ResultVar → Option (List AV)
  | [] => some []
  | .tmp t :: r => (lookE t env).bnd fun v => (resE P env st r).bnd fun vs => some (v :: vs)
  | .cell a t :: r => match lookE a env with
    | some (.ptr b off) => (loadVar P st t b off).bnd fun v => (resE P env st r).bnd fun vs => some (v :: vs)
    | _ => none
theorem resE_ok {P : Program} {fr : Fr} (hf : FrIs nt rd env fr) : ∀ {rs : List ResultVar} {vs : List AV}, resE P env st rs = some vs → aresults P fr st rs = some vs
  | [], vs, h => h
  | .tmp t :: r, vs, h => by
    simp only [resE, bnd_eq] at h
    obtain ⟨v, h1, us, h2, h3⟩ := h
    simp only [aresults, resE_ok hf h2, bnd_some, hf.val t v h1]
    exact h3
  | .cell a t :: r, vs, h => by
    simp only [resE] at h
    split at h
    · rename_i b off ha
      simp only [bnd_eq] at h
      obtain ⟨v, h1, us, h2, h3⟩ := h
      simp only [aresults, hf.val a _ ha, h1, resE_ok hf h2, bnd_some]
      exact h3
    · cases h
def argsE : List AV → Nat → Env
  | [], _ => []
  | v :: vs, i => (i, v) :: argsE vs (i + 1)
theorem argsE_look : ∀ {as : List AV} {i t : Nat} {v : AV}, lookE t (argsE as i) = some v → i ≤ t ∧ as[t - i]? = some v
  | [], _, _, _, h => by cases h
  | a :: as, i, t, v, h => by
    rw [argsE, lookE_cons] at h
    by_cases e : t = i
    · rw [if_pos e] at h
      subst e
      obtain rfl := Option.some.inj h
      exact ⟨Nat.le_refl _, by simp⟩
    · rw [if_neg e] at h
      obtain ⟨h1, h2⟩ := argsE_look h
      refine ⟨by omega, ?_⟩
      rw [show t - i = (t - (i + 1)) + 1 from by omega]
      simpa using h2
/-- A function is entered. -/
theorem CallW.enter {f : FuncId} {fn : Func} {c : Code} {sc : SC} {as : List AV} {K : AV → St → Prop} (hs : C.sum f as st = none) (hf : C.P.funcs[f]? = some fn) (hb : fn.body = some c) (hc : SC.of c = sc) (hle : Nat.ble as.length fn.ntmps = true)
    (h : WK C fn.ntmps none sc [] (argsE as 0) st fun e env st' => e ≠ .exit 0 ∧ (∀ i, e ≠ .exit i) ∧ ∃ vs, resE C.P env st' fn.results.toList = some vs ∧ K (one vs) st') : CallW C f as st K := by
  have hfr : FrIs fn.ntmps none (argsE as 0) ⟨fn.ntmps, args0 as 0 .nil, none⟩ := by
    refine ⟨rfl, rfl, fun t v ht => ?_⟩
    obtain ⟨_, h2⟩ := argsE_look ht
    simp only [Fr.get]
    have hlt := (List.getElem?_eq_some_iff.1 h2).1
    rw [args0_get, if_pos ⟨Nat.zero_le _, by omega⟩, h2]
    rfl
  obtain ⟨e, fr', st', h1, env', h2, _, h3, vs, h4, h5⟩ := h c hc _ hfr
  refine ⟨one vs, st', ?_, h5⟩
  obtain ⟨N, hN⟩ := h1
  refine ⟨N, fun n hn => ?_⟩
  have hnf : nth C.P.funcs.toList f = some fn := by rw [nth_eq]; simpa using hf
  have hx : aexec C n c ⟨fn.ntmps, args0 as 0 .nil, none⟩ st = some (e, fr', st') := hN n hn
  show acall C (aexec C n) f as st = _
  unfold acall
  rw [hs]
  simp only [hnf, bnd_some, callF, hb, AE.enter, hle, hx]
  show (left C.P fn.results.toList (e, fr', st')) = _
  cases e with
  | normal => simp only [left, resE_ok h2 h4, bnd_some]
  | ret => simp only [left, resE_ok h2 h4, bnd_some]
  | exit i => exact absurd rfl (h3 i)
end Go.AE

namespace Go.AE
open Go Go.RowKit

/-- The state goes on: what was there is as it was; nothing new is of an old family. -/
structure Ext (st st' : St) : Prop where
  nx : st.next ≤ st'.next
  heap : ∀ k, k < st.next → st'.heap.get k = st.heap.get k
  fams : ∀ k, k < st.next → st'.fams.get k = st.fams.get k
  nf : ∀ c o f, st'.heap.get c = some o → o.fam = some f → f < st.next → st.heap.get c = some o
  bf : ∀ c o f, st'.heap.get c = some o → o.fam = some f → st.heap.get c = some o ∨ f < st'.next
theorem Ext.refl (st : St) : Ext st st := ⟨Nat.le_refl _, fun _ _ => rfl, fun _ _ => rfl, fun _ _ _ h _ _ => h, fun _ _ _ h _ => .inl h⟩
theorem Ext.trans {a b c : St} (h : Ext a b) (k : Ext b c) : Ext a c :=
  ⟨Nat.le_trans h.nx k.nx, fun x hx => (k.heap x (Nat.lt_of_lt_of_le hx h.nx)).trans (h.heap x hx), fun x hx => (k.fams x (Nat.lt_of_lt_of_le hx h.nx)).trans (h.fams x hx), fun x o f ho hf hlt => h.nf x o f (k.nf x o f ho hf (Nat.lt_of_lt_of_le hlt h.nx)) hf hlt, fun x o f ho hf => (k.bf x o f ho hf).elim (fun h1 => (h.bf x o f h1 hf).imp id fun q => Nat.lt_of_lt_of_le q k.nx) .inr⟩
theorem push_get (st : St) (o : AObj) (k : Nat) : (st.push o).heap.get k = if k = st.next then some o else st.heap.get k := by
  cases st; exact T.get_set _ _ _ _
theorem push_fams (st : St) (o : AObj) : (st.push o).fams = st.fams := by cases st; rfl
theorem Ext.push {st st1 : St} (h : Ext st st1) (o : AObj) (ho : o.fam = none := by rfl) : Ext st (st1.push o) :=
  ⟨by rw [push_next]; have := h.nx; omega, fun k hk => by rw [push_get, if_neg (by have := h.nx; omega)]; exact h.heap k hk, fun k hk => by rw [push_fams]; exact h.fams k hk, fun c x f hx hf hlt => by
    rw [push_get] at hx
    split at hx
    · obtain rfl := Option.some.inj hx
      rw [ho] at hf; cases hf
    · exact h.nf c x f hx hf hlt, fun c x f hx hf => by
    rw [push_get] at hx
    split at hx
    · obtain rfl := Option.some.inj hx
      rw [ho] at hf; cases hf
    · exact (h.bf c x f hx hf).imp id fun q => by rw [push_next]; omega⟩
theorem Ext.set {st st1 : St} (h : Ext st st1) {b : Nat} (hb : st.next ≤ b) (o : AObj) (ho : o.fam = none := by rfl) : Ext st (st1.setObj b o) := by
  have hget : ∀ k, (st1.setObj b o).heap.get k = if k = b then some o else st1.heap.get k := fun k => by cases st1; exact T.get_set _ _ _ _
  refine ⟨?_, fun k hk => ?_, fun k hk => ?_, fun c x f hx hf hlt => ?_, fun c x f hx hf => ?_⟩
  · have : (st1.setObj b o).next = st1.next := by cases st1; rfl
    rw [this]; exact h.nx
  · rw [hget, if_neg (by omega)]; exact h.heap k hk
  · have : (st1.setObj b o).fams = st1.fams := by cases st1; rfl
    rw [this]; exact h.fams k hk
  · rw [hget] at hx
    split at hx
    · obtain rfl := Option.some.inj hx
      rw [ho] at hf; cases hf
    · exact h.nf c x f hx hf hlt
  · rw [hget] at hx
    split at hx
    · obtain rfl := Option.some.inj hx
      rw [ho] at hf; cases hf
    · have : (st1.setObj b o).next = st1.next := by cases st1; rfl
      rw [this]
      exact h.bf c x f hx hf
theorem set_get (st : St) (b : Nat) (o : AObj) (k : Nat) : (st.setObj b o).heap.get k = if k = b then some o else st.heap.get k := by
  cases st; exact T.get_set _ _ _ _

/-! Signs -/
theorem cnd_wd {p : Nat → Prop} {b : Bool} {x y : Nat × Nat} (hx : p x.2) (hy : p y.2) : p (cnd b x y).2 := by cases b <;> assumption
theorem dec8_wd (c : UInt8) (r : List UInt8) : 1 ≤ (dec8 (c :: r)).2 ∧ (dec8 (c :: r)).2 ≤ (c :: r).length := by
  have key : ∀ p : Nat → Prop, p 1 → (1 ≤ r.length → p 2) → (2 ≤ r.length → p 3) → (3 ≤ r.length → p 4) → p (dec8 (c :: r)).2 := by
    intro p p1 p2 p3 p4
    unfold dec8
    refine cnd_wd p1 ?_
    unfold decR dec2 dec3 dec4
    split
    · exact p1
    · exact cnd_wd (cnd_wd (p2 (by simp)) p1) p1
    · exact cnd_wd (cnd_wd (p2 (by simp)) p1) (cnd_wd (cnd_wd (p3 (by simp)) p1) p1)
    · exact cnd_wd (cnd_wd (p2 (by simp)) p1) (cnd_wd (cnd_wd (p3 (by simp)) p1) (cnd_wd (cnd_wd (p4 (by simp)) p1) p1))
  exact key (fun w => 1 ≤ w ∧ w ≤ (c :: r).length) (by simp) (fun h => by simp; omega) (fun h => by simp; omega) (fun h => by simp; omega)
/-! Rules by operation -/
section
variable {P : Program} {ρ : Rho} {st : St}
theorem r_range {t : TypeId} {x : Operand} {s : List UInt8} (ht : und P t = some .string) (hx : ρ x = some (.str s)) : aopR P ρ st (.range t x) = some (.ptr st.next 0, st.push (.siter s 0)) := by
  simp only [aopR, hx, bnd_some, oRange, ht]
theorem r_next_end {x : Operand} {b pos : Nat} (hx : ρ x = some (.ptr b 0)) (hb : st.heap.get b = some (.siter [] pos)) : aopR P ρ st (.next x true) = some (.tup [.bool false], st) := by
  simp only [aopR, hx, bnd_some, oNext, hb]
theorem r_next {x : Operand} {b pos : Nat} {c : UInt8} {r : List UInt8} (hx : ρ x = some (.ptr b 0)) (hb : st.heap.get b = some (.siter (c :: r) pos)) :
    aopR P ρ st (.next x true) = some (.tup [.bool true, .int .i64 (.ofNat pos), .int .i32 (.ofNat (dec8 (c :: r)).1)], st.setObj b (.siter ((c :: r).drop (dec8 (c :: r)).2) (Nat.add pos (dec8 (c :: r)).2))) := by
  simp only [aopR, hx, bnd_some, oNext, hb, nextS]
theorem r_nextD {x : Operand} {b pos k w : Nat} {s rest : List UInt8} (hs : s ≠ []) (hx : ρ x = some (.ptr b 0)) (hb : st.heap.get b = some (.siter s pos)) (hd : dec8 s = (k, w)) (hr : s.drop w = rest) :
    aopR P ρ st (.next x true) = some (.tup [.bool true, .int .i64 (pos : Int), .int .i32 (k : Int)], st.setObj b (.siter rest (pos + w))) := by
  cases s with
  | nil => exact absurd rfl hs
  | cons c r =>
    rw [r_next hx hb, hd, hr]; rfl
theorem r_len_str {t : TypeId} {x : Operand} {s : List UInt8} (ht : und P t = some .string) (hx : ρ x = some (.str s)) : aopR P ρ st (.call ⟨.builtin .len, #[x], #[t]⟩) = some (.int .i64 (s.length : Int), st) := by
  simp only [aopR, evsR, hx, bnd_some, builtinOp, lenB, ht]
theorem r_slice_str {t : TypeId} {x hi : Operand} {s : List UInt8} {k : IntKind} {n : Nat} (ht : und P t = some .string) (hx : ρ x = some (.str s)) (hh : ρ hi = some (.int k (n : Int))) (hn : n ≤ s.length) :
    aopR P ρ st (.slice t x none (some hi) none) = some (.str (s.take n), st) := by
  have e1 : (decide (0 ≤ (n : Int)) && Nat.ble (n : Int).toNat s.length) = true := by simp [hn]
  simp only [aopR, evOR, hx, hh, bnd_some, sliceOp, ht, isNone, bound, e1, cnd_true]
  simp
end
end Go.AE

namespace Go.AE
open Go Go.RowKit

theorem chunks_one {α : Type} : ∀ (l : List α), chunks 1 l.length l = some (l.map fun x => [x])
  | [] => rfl
  | x :: l => by
    simp only [List.length_cons, chunks, takeN, bnd_some, List.drop_succ_cons, List.drop_zero, chunks_one l, List.map_cons]
theorem chunks_len {α : Type} {z : Nat} : ∀ {n : Nat} {l : List α} {es : List (List α)}, chunks z n l = some es → es.length = n
  | 0, [], es, h => by simp only [chunks, Option.some.injEq] at h; subst h; rfl
  | 0, _ :: _, es, h => by simp [chunks] at h
  | n + 1, l, es, h => by
    simp only [chunks, bnd_eq, Option.some.injEq] at h
    obtain ⟨a, _, r, h2, rfl⟩ := h
    rw [List.length_cons, chunks_len h2]

/-- The row that is live at m, of the family f: its elements. -/
structure RowAt (st : St) (m f : Nat) (e z : Nat) (l : List (List AV)) : Prop where
  blk : ∃ t room, st.heap.get m = some (.cells ⟨e, z, t, l.length, room, .opn f⟩) ∧ ∀ i, i < l.length → t.get i = l[i]?
  fam : ∃ F, st.fams.get f = some F ∧ F.live = m ∧ F.since ≤ m
theorem RowAt.cells {st : St} {m f e z : Nat} {l : List (List AV)} (h : RowAt st m f e z l) : ∃ t room, cellsOf st m = some ⟨e, z, t, l.length, room, .opn f⟩ ∧ ∀ i, i < l.length → t.get i = l[i]? := by
  obtain ⟨t, room, h1, h2⟩ := h.blk
  obtain ⟨F, h3, h4, h5⟩ := h.fam
  refine ⟨t, room, ?_, h2⟩
  unfold cellsOf
  rw [h1]
  show (st.fams.get f).bnd _ = _
  rw [h3]
  show cnd (Nat.ble F.since m) _ _ = _
  rw [ble_true.2 h5]; rfl
theorem RowAt.ext {st st' : St} {m f e z : Nat} {l : List (List AV)} (h : RowAt st m f e z l) (k : Ext st st') (hm : m < st.next) (hf : f < st.next) : RowAt st' m f e z l := by
  obtain ⟨t, room, h1, h2⟩ := h.blk
  obtain ⟨F, h3, h4, h5⟩ := h.fam
  exact ⟨⟨t, room, by rw [k.heap m hm]; exact h1, h2⟩, ⟨F, by rw [k.fams f hf]; exact h3, h4, h5⟩⟩
/-- An element's one cell is read. -/
theorem RowAt.load1 {st : St} {m f e : Nat} {l : List (List AV)} (h : RowAt st m f e 1 l) {i : Nat} {v : AV} (hi : l[i]? = some [v]) : AE.load1 st m i = some v := by
  obtain ⟨t, room, h1, h2⟩ := h.cells
  have hlt := (List.getElem?_eq_some_iff.1 hi).1
  unfold AE.load1
  rw [h1]
  show ((Blk.el ⟨e, 1, t, l.length, room, .opn f⟩ (i / 1)).bnd _) = _
  have : Blk.el ⟨e, 1, t, l.length, room, .opn f⟩ (i / 1) = some [v] := by
    unfold Blk.el
    rw [Nat.div_one]
    show cnd (Nat.blt i l.length) (t.get i) none = _
    rw [blt_true.2 hlt, h2 i hlt, hi]; rfl
  rw [this]
  show nth [v] (i % 1) = some v
  rw [Nat.mod_one]; rfl

/-- The state with one block more: grown from nothing. -/
noncomputable def stNew (st : St) (e z : Nat) (es : List (List AV)) (room mark : Nat) : St := ⟨st.heap.set st.next (.cells ⟨e, z, setEls .nil 0 es, es.length, room, .opn st.next⟩), st.fams.set st.next ⟨st.next, st.next, mark⟩, st.next + 1⟩
theorem newOpen_is {st : St} {e z n : Nat} {cs : List AV} {es : List (List AV)} (h : chunks z n cs = some es) (room mark : Nat) : newOpen st e z n cs room mark = some (st.next, stNew st e z es room mark) := by
  have := chunks_len h
  unfold newOpen
  rw [h]
  cases st
  subst this
  rfl
theorem stNew_row (st : St) (e z : Nat) (es : List (List AV)) (room mark : Nat) : RowAt (stNew st e z es room mark) st.next st.next e z es := by
  refine ⟨⟨setEls .nil 0 es, room, ?_, fun i hi => ?_⟩, ⟨⟨st.next, st.next, mark⟩, ?_, rfl, Nat.le_refl _⟩⟩
  · exact T.get_set_same _ _ _
  · rw [setEls_get, if_pos ⟨Nat.zero_le _, by omega⟩, Nat.sub_zero]
  · exact T.get_set_same _ _ _
theorem Ext.new {st0 st : St} (h : Ext st0 st) (e z : Nat) (es : List (List AV)) (room mark : Nat) : Ext st0 (stNew st e z es room mark) :=
  ⟨Nat.le_succ_of_le h.nx, fun k hk => by
    show (st.heap.set _ _).get k = _
    rw [T.get_set_ne _ _ (by have := h.nx; omega)]; exact h.heap k hk, fun k hk => by
    show (st.fams.set _ _).get k = _
    rw [T.get_set_ne _ _ (by have := h.nx; omega)]; exact h.fams k hk, fun c x f hx hf hlt => by
    have hx : (st.heap.set _ _).get c = some x := hx
    rw [T.get_set] at hx
    split at hx
    · obtain rfl := Option.some.inj hx
      have hf : some st.next = some f := hf
      have := Option.some.inj hf
      have := h.nx
      omega
    · exact h.nf c x f hx hf hlt, fun c x f hx hf => by
    have hx : (st.heap.set _ _).get c = some x := hx
    rw [T.get_set] at hx
    split at hx
    · obtain rfl := Option.some.inj hx
      have hf : some st.next = some f := hf
      obtain rfl := Option.some.inj hf
      exact .inr (Nat.lt_succ_self _)
    · exact (h.bf c x f hx hf).imp id fun q => Nat.lt_succ_of_lt q⟩
/-- A row, or none yet. -/
def IsRow (st : St) (x : AV) (f : Nat) (e z : Nat) (l : List (List AV)) : Prop := (x = .nils ∧ l = []) ∨ ∃ m, x = .slc m 0 l.length none ∧ m < st.next ∧ f < st.next ∧ RowAt st m f e z l
theorem IsRow.ext {st st' : St} {x : AV} {f e z : Nat} {l : List (List AV)} (h : IsRow st x f e z l) (k : Ext st st') : IsRow st' x f e z l := by
  rcases h with h | ⟨m, h1, h2, h3, h4⟩
  · exact .inl h
  · exact .inr ⟨m, h1, Nat.lt_of_lt_of_le h2 k.nx, Nat.lt_of_lt_of_le h3 k.nx, h4.ext k h2 h3⟩

/-- One end more. -/
theorem IsRow.appendM {st0 st : St} {x : AV} {f e z n bytes : Nat} {l es : List (List AV)} {new : List AV} (h : IsRow st x f e z l) (hx : Ext st0 st) (hf : x = .nils ∨ st0.next ≤ f) (hz : 1 ≤ z) (hn : 1 ≤ n) (hc : chunks z n new = some es) (hp : new.all AV.plain = true)
    (hb : Nat.ble bytes 65536 = true) (hle : l.length + n ≤ 1073741824) : ∃ x' st' f', appendTo st e z bytes n x new = some (x', st') ∧ IsRow st' x' f' e z (l ++ es) ∧ Ext st0 st' ∧ st0.next ≤ f' ∧ (∀ k, k < st.next → st'.heap.get k = st.heap.get k) ∧
      (∀ k, k ≠ f → k < st.next → st'.fams.get k = st.fams.get k) ∧ st.next ≤ st'.next ∧ (∃ F', st'.fams.get f' = some F' ∧ (F'.mark = 0 ∨ ∃ F, x ≠ .nils ∧ st.fams.get f = some F ∧ F'.mark = F.mark)) ∧ (∀ c o g, st'.heap.get c = some o → o.fam = some g → st.heap.get c = some o ∨ g = f') ∧ (f' = f ∨ f' = st.next) := by
  have hel := chunks_len hc
  have hn0 : Nat.beq n 0 = false := by
    cases n with
    | zero => omega
    | succ n => rfl
  rcases h with ⟨rfl, rfl⟩ | ⟨m, rfl, hm, hfn, hr⟩
  · refine ⟨.slc st.next 0 n none, stNew st e z es n 0, st.next, ?_, .inr ⟨st.next, ?_, Nat.lt_succ_self _, Nat.lt_succ_self _, ?_⟩, hx.new _ _ _ _ _, hx.nx, fun k hk => ?_, fun k _ hk => ?_, Nat.le_succ _, ⟨_, T.get_set_same _ _ _, .inl rfl⟩, fun c o g hc hg => ?_, .inr rfl⟩
    · have hg : Nat.ble n 1073741824 = true := ble_true.2 (by simpa using hle)
      simp only [appendTo, hn0, cnd_false, grow, hg, hb, hp, Bool.and_self, cond_true, newOpen_is hc, bnd_some]
    · rw [List.nil_append, hel]
    · rw [List.nil_append]; exact stNew_row _ _ _ _ _ _
    · exact T.get_set_ne _ _ (by omega)
    · exact T.get_set_ne _ _ (by omega)
    · have hc : (st.heap.set _ _).get c = some o := hc
      rw [T.get_set] at hc
      split at hc
      · obtain rfl := Option.some.inj hc
        exact .inr (Option.some.inj hg).symm
      · exact .inl hc
  · obtain ⟨t, room, h1, h2⟩ := hr.blk
    obtain ⟨t', room', hcel, _⟩ := hr.cells
    have : t' = t ∧ room' = room := by
      have := cellsOf_eq.1 hcel
      rw [h1] at this
      have := this.1
      simp only [Option.some.injEq, AObj.cells.injEq, Blk.mk.injEq] at this
      exact ⟨this.2.2.1.symm, this.2.2.2.2.1.symm⟩
    obtain ⟨rfl, rfl⟩ := this
    obtain ⟨F, h3, h4, h5⟩ := hr.fam
    have c1 : (Nat.beq z z && isOpn (.opn f)) = true := by rw [beq_true.2 rfl]; rfl
    have c2 : Nat.ble (Nat.add 0 (Nat.mul (Nat.add l.length n) z)) (Nat.mul l.length z) = false := by
      cases hh : Nat.ble (Nat.add 0 (Nat.mul (Nat.add l.length n) z)) (Nat.mul l.length z) with
      | false => rfl
      | true =>
        have := ble_true.1 hh
        have e1 : Nat.add 0 (Nat.mul (Nat.add l.length n) z) = l.length * z + n * z := by
          show 0 + (l.length + n) * z = _
          rw [Nat.zero_add, Nat.add_mul]
        have e2 : Nat.mul l.length z = l.length * z := rfl
        rw [e1, e2] at this
        have : 1 ≤ n * z := Nat.mul_pos hn hz
        omega
    have c3 : (Nat.beq (Nat.add 0 (Nat.mul l.length z)) (Nat.mul l.length z) && Nat.beq (Nat.mod 0 z) 0 && Nat.beq e e && Nat.ble bytes 65536) = true := by
      have e1 : Nat.add 0 (Nat.mul l.length z) = Nat.mul l.length z := Nat.zero_add _
      have e2 : Nat.mod 0 z = 0 := Nat.zero_mod _
      rw [e1, beq_true.2 rfl, e2, beq_true.2 rfl, beq_true.2 rfl, hb]; rfl
    have c4 : (Nat.beq F.live m && Nat.ble (Nat.add l.length n) 1073741824 && new.all AV.plain) = true := by
      rw [beq_true.2 h4, ble_true.2 (show Nat.add l.length n ≤ 1073741824 from hle), hp]; rfl
    let stE : St := ⟨st.heap.set st.next (.cells ⟨e, z, setEls t' l.length es, Nat.add l.length n, 0, .opn f⟩), st.fams.set f (F.on st.next), Nat.succ st.next⟩
    have hrun : appendTo st e z bytes n (.slc m 0 l.length none) new = some (.slc st.next 0 (Nat.add l.length n) none, stE) := by
      simp only [appendTo, hn0, cnd_false, appendSlc, hcel, bnd_some, c1, c2, c3, h3, extend, c4, hc]
      cases st
      rfl
    have hl : st0.next ≤ f := by
      rcases hf with hf | hf
      · cases hf
      · exact hf
    refine ⟨_, stE, f, hrun, .inr ⟨st.next, ?_, Nat.lt_succ_self _, Nat.lt_succ_of_lt hfn, ⟨setEls t' l.length es, 0, ?_, fun i hi => ?_⟩, ⟨F.on st.next, T.get_set_same _ _ _, rfl, ?_⟩⟩, ?_, hl, fun k hk => T.get_set_ne _ _ (by omega), fun k hkf _ => T.get_set_ne _ _ hkf, Nat.le_succ _, ⟨_, T.get_set_same _ _ _, .inr ⟨F, (fun h => nomatch h), h3, (by cases F; rfl)⟩⟩, fun c o g hc hg => ?_, .inl rfl⟩
    · rw [List.length_append, hel]; rfl
    · rw [List.length_append, hel]
      exact T.get_set_same _ _ _
    · rw [setEls_get]
      rw [List.length_append] at hi
      by_cases hi2 : i < l.length
      · rw [if_neg (by omega), List.getElem?_append_left hi2]
        exact h2 i hi2
      · rw [if_pos ⟨by omega, by omega⟩, List.getElem?_append_right (by omega)]
    · cases F
      exact Nat.le_trans h5 (Nat.le_of_lt hm)
    · refine ⟨Nat.le_succ_of_le hx.nx, fun k hk => ?_, fun k hk => ?_, fun c x g hcx hg hlt => ?_, fun c x g hcx hg => ?_⟩
      · have := hx.nx
        rw [← hx.heap k hk]
        exact T.get_set_ne _ _ (by omega)
      · rw [← hx.fams k hk]
        exact T.get_set_ne _ _ (by omega)
      · have hcx : (st.heap.set _ _).get c = some x := hcx
        rw [T.get_set] at hcx
        split at hcx
        · obtain rfl := Option.some.inj hcx
          have hg : some f = some g := hg
          have := Option.some.inj hg
          omega
        · exact hx.nf c x g hcx hg hlt
      · have hcx : (st.heap.set _ _).get c = some x := hcx
        rw [T.get_set] at hcx
        split at hcx
        · obtain rfl := Option.some.inj hcx
          have hg : some f = some g := hg
          obtain rfl := Option.some.inj hg
          exact .inr (Nat.lt_succ_of_lt hfn)
        · exact (hx.bf c x g hcx hg).imp id fun q => Nat.lt_succ_of_lt q
    · have hc : (st.heap.set _ _).get c = some o := hc
      rw [T.get_set] at hc
      split at hc
      · obtain rfl := Option.some.inj hc
        exact .inr (Option.some.inj hg).symm
      · exact .inl hc
theorem IsRow.append {st0 st : St} {x : AV} {f e z n bytes : Nat} {l es : List (List AV)} {new : List AV} (h : IsRow st x f e z l) (hx : Ext st0 st) (hf : x = .nils ∨ st0.next ≤ f) (hz : 1 ≤ z) (hn : 1 ≤ n) (hc : chunks z n new = some es) (hp : new.all AV.plain = true)
    (hb : Nat.ble bytes 65536 = true) (hle : l.length + n ≤ 1073741824) : ∃ x' st' f', appendTo st e z bytes n x new = some (x', st') ∧ IsRow st' x' f' e z (l ++ es) ∧ Ext st0 st' ∧ st0.next ≤ f' ∧ (∀ k, k < st.next → st'.heap.get k = st.heap.get k) ∧
      (∀ k, k ≠ f → k < st.next → st'.fams.get k = st.fams.get k) ∧ st.next ≤ st'.next := by
  obtain ⟨x', st', f', h1, h2, h3, h4, h5, h6, h7, _⟩ := h.appendM hx hf hz hn hc hp hb hle
  exact ⟨x', st', f', h1, h2, h3, h4, h5, h6, h7⟩
end Go.AE

namespace Go.AE
open Go Go.RowKit

variable {P : Program} {ρ : Rho} {st : St}

theorem getEls_all {t : T (List AV)} {l : List (List AV)} (h : ∀ i, i < l.length → t.get i = l[i]?) : ∀ (n i : Nat), i + n = l.length → getEls t i n = some (l.drop i).flatten
  | 0, i, hi => by
    rw [List.drop_eq_nil_of_le (by omega)]; rfl
  | n + 1, i, hi => by
    have hlt : i < l.length := by omega
    simp only [getEls, h i hlt]
    rw [List.getElem?_eq_getElem hlt, bnd_some]
    have := getEls_all h n (i + 1) (by omega)
    rw [show Nat.succ i = i + 1 from rfl, this, bnd_some, List.drop_eq_getElem_cons hlt, List.flatten_cons]
theorem load_one (e _f room : Nat) (t : T (List AV)) (a : AV) (k : Kind) (h : t.get 0 = some [a]) : (Blk.mk e 1 t 1 room k).load 0 1 = some [a] := by
  have h1 : Nat.ble (Nat.add (Nat.mod 0 1) 1) 1 = true := by decide
  have h2 : (Blk.mk e 1 t 1 room k).el (Nat.div 0 1) = some [a] := h
  simp only [Blk.load, h1, cond_true, h2, bnd_some]
  rfl
/-- All cells of a row of one cell each. -/
theorem RowAt.loadAll {m f e : Nat} {l : List (List AV)} (h : RowAt st m f e 1 l) (hl : ∀ x ∈ l, x.length = 1) : loadCells st m 0 l.length = some l.flatten := by
  obtain ⟨t, room, h1, h2⟩ := h.cells
  unfold loadCells
  rw [h1, bnd_some]
  unfold Blk.load
  match l, h1, h2, hl with
  | [], _, _, _ => rfl
  | [x], _, h2, hl =>
    have hx := hl x (by simp)
    have : t.get 0 = some x := h2 0 (by simp)
    obtain ⟨a, rfl⟩ : ∃ a, x = [a] := List.length_eq_one_iff.1 hx
    exact load_one e f room t a _ this
  | x :: y :: l, _, h2, _ =>
    have hlen : (x :: y :: l).length = l.length + 1 + 1 := by simp
    rw [hlen]
    have e1 : Nat.ble (Nat.add (Nat.mod 0 1) (l.length + 1 + 1)) 1 = false := by
      cases hb : Nat.ble (Nat.add (Nat.mod 0 1) (l.length + 1 + 1)) 1 with
      | false => rfl
      | true =>
        have h3 := ble_true.1 hb
        have : Nat.add (Nat.mod 0 1) (l.length + 1 + 1) = 0 + (l.length + 1 + 1) := rfl
        omega
    have e2 : (Nat.beq (Nat.mod 0 1) 0 && Nat.beq (Nat.mod (l.length + 1 + 1) 1) 0 && Nat.ble (Nat.add (Nat.div 0 1) (Nat.div (l.length + 1 + 1) 1)) (l.length + 1 + 1)) = true := by
      have a1 : Nat.mod (l.length + 1 + 1) 1 = 0 := Nat.mod_one _
      have a2 : Nat.div (l.length + 1 + 1) 1 = l.length + 1 + 1 := Nat.div_one _
      rw [a1, a2]
      have a3 : Nat.ble (Nat.add (Nat.div 0 1) (l.length + 1 + 1)) (l.length + 1 + 1) = true := ble_true.2 (by show 0 + (l.length + 1 + 1) ≤ _; omega)
      rw [a3]; rfl
    simp only [e1, cond_false]
    rw [show (bif _ then _ else _ : Option (List AV)) = _ from by rw [e2]]
    have a2 : Nat.div (l.length + 1 + 1) 1 = l.length + 1 + 1 := Nat.div_one _
    have := getEls_all h2 (l.length + 1 + 1) 0 (by simp)
    show getEls t (Nat.div 0 1) (Nat.div (l.length + 1 + 1) 1) = _
    rw [a2]
    exact this
theorem bytesOf_cells : ∀ s : List UInt8, bytesOf (cellsOfBytes s) = some s
  | [] => rfl
  | c :: s => by
    show bytesOf (AV.int .u8 (.ofNat c.toNat) :: cellsOfBytes s) = _
    simp only [bytesOf, bytesOf_cells s, bnd_some]
    have : (Int.ofNat c.toNat).toNat = c.toNat := rfl
    rw [this, UInt8.ofNat_toNat]
noncomputable def byteEls (s : List UInt8) : List (List AV) := (cellsOfBytes s).map fun x => [x]
theorem byteEls_len (s : List UInt8) : (byteEls s).length = s.length := by simp [byteEls, cellsOfBytes]
theorem byteEls_flat (s : List UInt8) : (byteEls s).flatten = cellsOfBytes s := by
  unfold byteEls
  generalize cellsOfBytes s = l
  induction l with
  | nil => rfl
  | cons a l ih => simp [ih]
/-- '[]byte(s)' -/
theorem r_bytes {a t e : TypeId} {x : Operand} {s : List UInt8} (ha : und P a = some .string) (ht : und P t = some (.slice e)) (he : und P e = some (.int .u8)) (hx : ρ x = some (.str s)) :
    aopR P ρ st (.convert a t x) = some (.slc st.next 0 s.length none, stNew st e 1 (byteEls s) s.length 2) := by
  have hc : chunks 1 s.length (cellsOfBytes s) = some (byteEls s) := by
    have := chunks_one (cellsOfBytes s)
    rwa [show (cellsOfBytes s).length = s.length by simp [cellsOfBytes]] at this
  simp only [aopR, hx, bnd_some, convert, ha, ht, he, newOpen_is hc]
/-- 'string(b)' -/
theorem r_string {a t e f : TypeId} {x : Operand} {s : List UInt8} {m : Nat} (ha : und P a = some .string) (ht : und P t = some (.slice e)) (he : und P e = some (.int .u8)) (hx : ρ x = some (.slc m 0 s.length none)) (hr : RowAt st m f e 1 (byteEls s)) :
    aopR P ρ st (.convert t a x) = some (.str s, st) := by
  have hl := hr.loadAll (by simp [byteEls])
  rw [byteEls_len, byteEls_flat] at hl
  simp only [aopR, hx, bnd_some, convert, ha, ht, he, hl, bytesOf_cells]
/-- A literal of one element. -/
noncomputable def stLit (st : St) (e : TypeId) (v : AV) : St := st.push (.cells ⟨e, v.cells.length, setEls .nil 0 [v.cells], 1, 1, .rw⟩)
theorem Ext.lit {st0 st : St} (h : Ext st0 st) (e : TypeId) (v : AV) : Ext st0 (stLit st e v) := h.push _
theorem stLit_load (st : St) (e : TypeId) (v : AV) (hv : v.plain = true) : loadCells (stLit st e v) st.next 0 1 = some [v] := by
  have hv1 : v.cells = [v] := by cases v <;> first | rfl | cases hv
  unfold loadCells cellsOf stLit
  rw [push_get, if_pos rfl, hv1]
  exact load_one e 0 1 _ v _ rfl
theorem r_lit {t e : TypeId} {x : Operand} {v zv : AV} (ht : und P t = some (.slice e)) (hs : sizeT P e = some 1) (hz : zeroT P e = some zv) (hzp : zv.plain = true) (hx : ρ x = some v) (hv : v.plain = true) :
    aopR P ρ st (.buildSlice t 1 #[(0, x)]) = some (.slc st.next 0 1 (some 1), stLit st e v) := by
  have hv1 : v.cells = [v] := by cases v <;> first | rfl | cases hv
  have hz1 : zv.cells = [zv] := by cases zv <;> first | rfl | cases hzp
  have hfill : fill (fun i => some (Nat.mul i 1, 1)) (rep 1 zv.cells) [(0, v)] = some [v] := by
    have h1 : (Nat.beq v.cells.length 1 && Nat.ble 1 1 && v.cells.all AV.plain) = true := by rw [hv1]; simp [hv]
    have h2 : rep 1 zv.cells = [zv] := by rw [hz1]; rfl
    rw [h2]
    simp only [fill, bnd_some]
    rw [h1, hv1]
    rfl
  have hg : (Nat.ble 1 1 && Nat.beq zv.cells.length 1 && Nat.ble (Nat.mul 1 1) 16777216 && zv.cells.all AV.plain) = true := by rw [hz1]; simp [hzp]
  have hrow : rowOf e 1 1 [v] .rw = some (.cells ⟨e, 1, setEls .nil 0 [[v]], 1, 1, .rw⟩) := rfl
  simp only [aopR, evpsR, hx, bnd_some, oBuildSlice, ht, hs, hz, hg, cond_true, hfill, hrow, lay]
  simp only [stLit, hv1]
  rfl
/-- 'append' of a literal of one element. -/
theorem r_append {t e : TypeId} {x y : Operand} {xv v zv : AV} {b bytes : Nat} (ht : und P t = some (.slice e)) (hs : sizeT P e = some 1) (hby : bytesT P e = some bytes) (hb1 : Nat.ble 1 bytes = true) (hz : zeroT P e = some zv) (hzp : zv.plain = true) (hx : ρ x = some xv) (hy : ρ y = some (.slc b 0 1 (some 1))) (hl : loadCells st b 0 1 = some [v]) :
    aopR P ρ st (.call ⟨.builtin .append, #[x, y], #[t, t]⟩) = appendTo st e 1 bytes 1 xv [v] := by
  have hz1 : zv.cells = [zv] := by cases zv <;> first | rfl | cases hzp
  have hg : (Nat.ble 1 1 && Nat.ble 1 bytes && notInt (.slice e) && Nat.beq zv.cells.length 1) = true := by rw [hz1, hb1]; rfl
  have hf : firstCells st 1 1 (.slc b 0 1 (some 1)) = some [v] := hl
  simp only [aopR, evsR, hx, hy, bnd_some, builtinOp, AE.append, ht, hs, hby, lenOf, hz, hg, cnd_true, hf]
/-- 'string([]rune{r})' -/
theorem r_runes1 {a t e : TypeId} {x : Operand} {b : Nat} {c : Option Nat} {n : Int} (ha : und P a = some .string) (ht : und P t = some (.slice e)) (he : und P e = some (.int .i32)) (hx : ρ x = some (.slc b 0 1 c)) (hl : loadCells st b 0 1 = some [.int .i32 n]) :
    aopR P ρ st (.convert t a x) = some (.str (enc8 n), st) := by
  simp only [aopR, hx, bnd_some, convert, ha, ht, he, hl, runesOf, List.append_nil]
end Go.AE

namespace Go.AE
open Go Go.RowKit

variable {P : Program} {ρ : Rho} {st : St} {t u : TypeId} {x y : Operand} {k : IntKind} {a b : Int} {q : Bool}
theorem r_arith {op : BinOp} {v : AV} (hop : op ≠ .shl ∧ op ≠ .shr) (hx : ρ x = some (.int k a)) (hy : ρ y = some (.int k b)) (h : intBin op k a b = some v) : aopR P ρ st (.binOp op t x y u) = some (v, st) := by
  have hk : kindEq k k = true := by cases k <;> rfl
  simp only [aopR, hx, hy, bnd_some]
  have : binOp P op t (.int k a) (.int k b) = some v := by
    cases op <;> simp only [binOp, hk, cnd_true] <;> first | exact h | exact absurd rfl hop.1 | exact absurd rfl hop.2
  rw [this, bnd_some]
theorem r_lss (hx : ρ x = some (.int k a)) (hy : ρ y = some (.int k b)) (h : iltb a b = q) : aopR P ρ st (.binOp .lss t x y u) = some (.bool q, st) := r_arith ⟨by decide, by decide⟩ hx hy (by rw [← h]; rfl)
theorem r_gtr (hx : ρ x = some (.int k a)) (hy : ρ y = some (.int k b)) (h : iltb b a = q) : aopR P ρ st (.binOp .gtr t x y u) = some (.bool q, st) := r_arith ⟨by decide, by decide⟩ hx hy (by rw [← h]; rfl)
theorem r_leq (hx : ρ x = some (.int k a)) (hy : ρ y = some (.int k b)) (h : (!iltb b a) = q) : aopR P ρ st (.binOp .leq t x y u) = some (.bool q, st) := r_arith ⟨by decide, by decide⟩ hx hy (by rw [← h]; rfl)
theorem r_geq (hx : ρ x = some (.int k a)) (hy : ρ y = some (.int k b)) (h : (!iltb a b) = q) : aopR P ρ st (.binOp .geq t x y u) = some (.bool q, st) := r_arith ⟨by decide, by decide⟩ hx hy (by rw [← h]; rfl)
theorem r_eql (hx : ρ x = some (.int k a)) (hy : ρ y = some (.int k b)) (h : ieqb a b = q) : aopR P ρ st (.binOp .eql t x y u) = some (.bool q, st) := r_arith ⟨by decide, by decide⟩ hx hy (by rw [← h]; rfl)
theorem r_neq (hx : ρ x = some (.int k a)) (hy : ρ y = some (.int k b)) (h : (!ieqb a b) = q) : aopR P ρ st (.binOp .neq t x y u) = some (.bool q, st) := r_arith ⟨by decide, by decide⟩ hx hy (by rw [← h]; rfl)
theorem add_nat {a b : Nat} (h : a + b < 9223372036854775808) : intBin .add .i64 (a : Int) (b : Int) = some (.int .i64 ((a + b : Nat) : Int)) := by
  have : wrapF .i64 (Int.add a b) = ((a + b : Nat) : Int) := by
    rw [wrapF_eq]
    show IntKind.wrap .i64 ((a : Int) + b) = _
    rw [IntWalk.i64_in _ (by omega)]; omega
  simp only [intBin, this]
theorem sub_nat {a b : Nat} (hb : b ≤ a) (h : a < 9223372036854775808) : intBin .sub .i64 (a : Int) (b : Int) = some (.int .i64 ((a - b : Nat) : Int)) := by
  have : wrapF .i64 (Int.sub a b) = ((a - b : Nat) : Int) := by
    rw [wrapF_eq]
    show IntKind.wrap .i64 ((a : Int) - b) = _
    rw [IntWalk.i64_in _ (by omega)]; omega
  simp only [intBin, this]
theorem mul_nat {a b : Nat} (h : a * b < 9223372036854775808) : intBin .mul .i64 (a : Int) (b : Int) = some (.int .i64 ((a * b : Nat) : Int)) := by
  have : wrapF .i64 (Int.mul a b) = ((a * b : Nat) : Int) := by
    rw [wrapF_eq]
    show IntKind.wrap .i64 ((a : Int) * b) = _
    have e : (a : Int) * b = ((a * b : Nat) : Int) := by simp
    rw [e, IntWalk.i64_in _ (by omega)]
  simp only [intBin, this]
theorem quo_nat {a b : Nat} (hb : b ≠ 0) (h : a < 9223372036854775808) : intBin .quo .i64 (a : Int) (b : Int) = some (.int .i64 ((a / b : Nat) : Int)) := by
  have h0 : ieqb (b : Int) 0 = false := by rw [ieqb_eq]; simp; exact hb
  have h1 : (a : Int).tdiv b = ((a / b : Nat) : Int) := rfl
  have h2 : a / b ≤ a := Nat.div_le_self a b
  have : wrapF .i64 ((a : Int).tdiv b) = ((a / b : Nat) : Int) := by
    rw [wrapF_eq, h1]
    generalize a / b = d at h2
    rw [IntWalk.i64_in _ (by omega)]
  simp only [intBin, h0, this, cnd_false]
/-! Texts -/
variable {s r : List UInt8}
theorem r_cat (hx : ρ x = some (.str s)) (hy : ρ y = some (.str r)) (h : s.length + r.length ≤ 4611686018427387904) : aopR P ρ st (.binOp .add t x y u) = some (.str (s ++ r), st) := by
  simp only [aopR, hx, hy, bnd_some, binOp, strBin, ble_true.2 h, cnd_true]
theorem r_seql (hx : ρ x = some (.str s)) (hy : ρ y = some (.str r)) (h : eqL s r = q) : aopR P ρ st (.binOp .eql t x y u) = some (.bool q, st) := by
  simp only [aopR, hx, hy, bnd_some, binOp, strBin, h]
theorem r_sneq (hx : ρ x = some (.str s)) (hy : ρ y = some (.str r)) (h : (!eqL s r) = q) : aopR P ρ st (.binOp .neq t x y u) = some (.bool q, st) := by
  simp only [aopR, hx, hy, bnd_some, binOp, strBin, h]
theorem eqL_self (s : List UInt8) : eqL s s = true := by rw [eqL_eq]; simp
/-! Rows -/
theorem r_idx {e : TypeId} {z m off len : Nat} {c : Option Nat} {n : Nat} (ht : und P t = some (.slice e)) (hs : sizeT P e = some z) (hx : ρ x = some (.slc m off len c)) (hy : ρ y = some (.int k (n : Int))) (hn : n < len) :
    aopR P ρ st (.indexAddr t x y) = some (.ptr m (Nat.add off (Nat.mul n z)), st) := by
  have h : idxb (n : Int) len = some n := idxb_eq.2 ⟨⟨by omega, by omega⟩, by omega⟩
  simp only [aopR, hx, hy, bnd_some, oIndexAddr, ht, h, hs]
theorem r_load1 {m off : Nat} {v : AV} (ht : isAggT P t = some false) (hx : ρ x = some (.ptr m off)) (hl : load1 st m off = some v) : aopR P ρ st (.load t x) = some (v, st) := by
  simp only [aopR, hx, bnd_some, oLoad, loadVar, ht, cond_false, hl, pairS]
end Go.AE
