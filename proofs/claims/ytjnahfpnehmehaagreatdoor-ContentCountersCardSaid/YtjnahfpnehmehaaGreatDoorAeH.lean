/- The abstract evaluator: states under other numbers; memos of runs; known states that stand in others; tables of answers. -/
import Derived.Test.YtjnahfpnehmehaaGreatDoorAeF
import Derived.Test.YtjnahfpnehmehaaGreatDoorAeG
namespace Go.AE
open Go Go.RowKit

/-! Other numbers -/
def renFn (σ : Nat → Nat) : Fn → Fn
  | .yield l => .yield (σ l)
  | f => f
mutual
def ren (σ : Nat → Nat) : AV → AV
  | .bool b => .bool b
  | .int k n => .int k n
  | .str s => .str s
  | .nilp => .nilp
  | .ptr b off => .ptr (σ b) off
  | .nils => .nils
  | .slc b off len cap => .slc (σ b) off len cap
  | .nilm => .nilm
  | .map b => .map (σ b)
  | .nilf => .nilf
  | .func fn x y => .func (renFn σ fn) (renL σ x) (renL σ y)
  | .nili => .nili
  | .iface t v => .iface t (ren σ v)
  | .agg c => .agg (renL σ c)
  | .tup c => .tup (renL σ c)
def renL (σ : Nat → Nat) : List AV → List AV
  | [] => []
  | v :: vs => ren σ v :: renL σ vs
end
theorem renL_eq (σ : Nat → Nat) : ∀ l, renL σ l = l.map (ren σ)
  | [] => rfl
  | v :: vs => by simp [renL, renL_eq σ vs]
theorem concFn_ren (φ : Emb) (σ : Nat → Nat) (f : Fn) : concFn φ (renFn σ f) = concFn (fun b => φ (σ b)) f := by cases f <;> rfl
mutual
theorem conc_ren (φ : Emb) (σ : Nat → Nat) : ∀ v, conc φ (ren σ v) = conc (fun b => φ (σ b)) v
  | .bool _ | .int _ _ | .str _ | .nilp | .ptr _ _ | .nils | .nilm | .map _ | .nilf | .nili => rfl
  | .slc b off len cap => by cases cap <;> rfl
  | .func fn x y => by rw [ren, conc, conc, conc_renL φ σ x, conc_renL φ σ y, concFn_ren]
  | .iface t v => by rw [ren, conc, conc, conc_ren φ σ v]
  | .agg c => by rw [ren, conc, conc, conc_renL φ σ c]
  | .tup c => by rw [ren, conc, conc, conc_renL φ σ c]
theorem conc_renL (φ : Emb) (σ : Nat → Nat) : ∀ l, concL φ (renL σ l) = concL (fun b => φ (σ b)) l
  | [] => rfl
  | v :: vs => by rw [renL, concL, concL, conc_ren φ σ v, conc_renL φ σ vs]
end
theorem ren_cells (σ : Nat → Nat) (v : AV) : (ren σ v).cells = renL σ v.cells := by cases v <;> simp [ren, AV.cells, renL]

noncomputable def T.map {α β : Type} (f : α → β) : T α → T β
  | .nil => .nil
  | .node l v r => .node (T.map f l) (v.map f) (T.map f r)
theorem T.get_map {α β : Type} (f : α → β) : ∀ (t : T α) (n : Nat), (t.map f).get n = (t.get n).map f
  | .nil, n => by simp [T.map, T.get_nil]
  | .node l v r, n => by
    rw [T.map, T.get_node, T.get_node]
    cases n with
    | zero => rfl
    | succ m =>
      simp only
      split
      · exact T.get_map f l _
      · exact T.get_map f r _
def renK (σ : Nat → Nat) : Kind → Kind
  | .opn f => .opn (σ f)
  | k => k
noncomputable def renB (σ : Nat → Nat) (B : Blk) : Blk := ⟨B.e, B.z, B.t.map (renL σ), B.hi, B.room, renK σ B.k⟩
noncomputable def renO (σ : Nat → Nat) : AObj → AObj
  | .cells B => .cells (renB σ B)
  | .map es => .map (es.map fun p => (ren σ p.1, ren σ p.2))
  | .siter r p => .siter r p
  | .loop a b c d e f => .loop a b c d e f
def renF (σ : Nat → Nat) (F : Fam) : Fam := ⟨σ F.live, σ F.since, F.mark⟩
def NoLoop : AObj → Prop
  | .loop .. => False
  | _ => True
theorem renO_fam (σ : Nat → Nat) (o : AObj) : (renO σ o).fam = o.fam.map σ := by
  cases o with
  | cells B => obtain ⟨e, z, t, hi, room, k⟩ := B; cases k <;> rfl
  | _ => rfl
theorem renO_wr (σ : Nat → Nat) (o : AObj) : (renO σ o).wr = o.wr := by
  cases o with
  | cells B => obtain ⟨e, z, t, hi, room, k⟩ := B; cases k <;> rfl
  | _ => rfl

theorem ElOk.unren {n n' : Nat} {φ φ' : Emb} {σ : Nat → Nat} (hrep : ∀ a u, Rep n φ (ren σ a) u → Rep n' φ' a u) {im : Img} {B : Blk} {c : Array Value} (h : ElOk n φ im (renB σ B) c) : ElOk n' φ' im B c := by
  intro i hi
  obtain ⟨l, h1, h2, h3⟩ := h i hi
  have h1 : (B.t.map (renL σ)).get i = some l := h1
  rw [T.get_map] at h1
  cases hl : B.t.get i with
  | none => rw [hl] at h1; cases h1
  | some l0 =>
    rw [hl] at h1
    obtain rfl := Option.some.inj h1
    refine ⟨l0, rfl, by have e : (renB σ B).z = B.z := rfl; rw [e, renL_eq, List.length_map] at h2; exact h2, fun r a hr => ?_⟩
    obtain ⟨u, u1, u2⟩ := h3 r (ren σ a) (by rw [renL_eq, List.getElem?_map, hr]; rfl)
    exact ⟨u, u1, hrep a u u2⟩
theorem ElOk.reren {n n' : Nat} {φ φ' : Emb} {σ : Nat → Nat} (hrep : ∀ a u, Rep n φ a u → Rep n' φ' (ren σ a) u) {im : Img} {B : Blk} {c : Array Value} (h : ElOk n φ im B c) : ElOk n' φ' im (renB σ B) c := by
  intro i hi
  obtain ⟨l, h1, h2, h3⟩ := h i hi
  refine ⟨renL σ l, ?_, by rw [renL_eq, List.length_map]; exact h2, fun r a hr => ?_⟩
  · show (B.t.map (renL σ)).get i = _
    rw [T.get_map, h1]; rfl
  · rw [renL_eq, List.getElem?_map] at hr
    cases ha : l[r]? with
    | none => rw [ha] at hr; cases hr
    | some a0 =>
      rw [ha] at hr
      obtain rfl := Option.some.inj hr
      obtain ⟨u, u1, u2⟩ := h3 r a0 ha
      exact ⟨u, u1, hrep a0 u u2⟩
theorem kindOk_ren {σ : Nat → Nat} {im : Img} {B : Blk} {size : Nat} {fz : Nat × Nat} : KindOk im (renB σ B) size fz ↔ KindOk im B size fz := by
  obtain ⟨e, z, t, hi, room, k⟩ := B
  cases k <;> exact Iff.rfl
theorem ObjOk.unren {n n' : Nat} {φ φ' : Emb} {σ : Nat → Nat} (hrep : ∀ a u, Rep n φ (ren σ a) u → Rep n' φ' a u) {im : Img} {o : AObj} {O : Option Obj} (hl : NoLoop o) (h : ObjOk n φ im (renO σ o) O) : ObjOk n' φ' im o O := by
  cases o with
  | cells B =>
    obtain ⟨c, fz, h1, h2, h3, h4, h5⟩ := h
    exact ⟨c, fz, h1, h2, h3, h4.unren hrep, kindOk_ren.1 h5⟩
  | map es =>
    obtain ⟨ents, clk, h1, h2, h3⟩ := h
    refine ⟨ents, clk, h1, by rw [h2]; simp, fun i p e hp he => ?_⟩
    have := h3 i _ e (by rw [List.getElem?_map, hp]; rfl) he
    exact ⟨hrep _ _ this.1, hrep _ _ this.2⟩
  | siter r p => exact h
  | loop => exact hl.elim
theorem ObjOk.reren {n n' : Nat} {φ φ' : Emb} {σ : Nat → Nat} (hrep : ∀ a u, Rep n φ a u → Rep n' φ' (AE.ren σ a) u) {im : Img} {o : AObj} {O : Option Obj} (hl : NoLoop o) (h : ObjOk n φ im o O) : ObjOk n' φ' im (renO σ o) O := by
  cases o with
  | cells B =>
    obtain ⟨c, fz, h1, h2, h3, h4, h5⟩ := h
    exact ⟨c, fz, h1, h2, h3, h4.reren hrep, kindOk_ren.2 h5⟩
  | map es =>
    obtain ⟨ents, clk, h1, h2, h3⟩ := h
    refine ⟨ents, clk, h1, by rw [h2]; simp, fun i p e hp he => ?_⟩
    rw [List.getElem?_map] at hp
    cases hq : es[i]? with
    | none => rw [hq] at hp; cases hp
    | some q =>
      rw [hq] at hp
      obtain rfl := Option.some.inj hp
      have := h3 i q e hq he
      exact ⟨hrep _ _ this.1, hrep _ _ this.2⟩
  | siter r p => exact h
  | loop => exact hl.elim

open Classical in
theorem Rep.unren {m n0 : Nat} {φ : Emb} {σ : Nat → Nat} (hinj : ∀ a b, σ a = σ b → a = b) (hhi : ∀ b, n0 ≤ b → m ≤ σ b) {a : AV} {u : Value} (h : Rep m φ (ren σ a) u) : Rep n0 (fun b => φ (σ b)) a u := by
  intro ψ hψ
  let φ2 : Emb := fun c => if h : ∃ b, c = σ b then ψ h.choose else φ c
  have e : (fun b => φ2 (σ b)) = ψ := by
    funext b
    have hx : ∃ b', σ b = σ b' := ⟨b, rfl⟩
    show (if h : ∃ b', σ b = σ b' then ψ h.choose else φ (σ b)) = ψ b
    rw [dif_pos hx, ← hinj _ _ hx.choose_spec]
  have := h φ2 fun c hc hz => by
    show (if h : ∃ b, c = σ b then ψ h.choose else φ c) = φ c
    by_cases hx : ∃ b, c = σ b
    · rw [dif_pos hx]
      have hs := hx.choose_spec
      generalize hx.choose = b at hs ⊢
      subst hs
      by_cases hb : b < n0
      · exact hψ b hb hz
      · have := hhi b (by omega); omega
    · rw [dif_neg hx]
  rw [conc_ren, e] at this
  exact this
theorem Rep.reren {n1 m : Nat} {φ1 φ' : Emb} {σ : Nat → Nat} (hag : ∀ b, b < n1 → (φ1 b).z ≠ 0 → φ' (σ b) = φ1 b ∧ σ b < m) {a : AV} {u : Value} (h : Rep n1 φ1 a u) : Rep m φ' (ren σ a) u := by
  intro ψ hψ
  rw [conc_ren]
  refine h _ fun b hb hz => ?_
  obtain ⟨h1, h2⟩ := hag b hb hz
  show ψ (σ b) = φ1 b
  rw [hψ (σ b) h2 (by rw [h1]; exact hz), h1]
theorem RepL.unren {m n0 : Nat} {φ : Emb} {σ : Nat → Nat} (hinj : ∀ a b, σ a = σ b → a = b) (hhi : ∀ b, n0 ≤ b → m ≤ σ b) {a : List AV} {u : List Value} (h : RepL m φ (renL σ a) u) : RepL n0 (fun b => φ (σ b)) a u := by
  refine RepL.of_get ?_ fun i x y hx hy => ?_
  · have := h.length
    rw [renL_eq, List.length_map] at this
    exact this
  · obtain ⟨y', h1, h2⟩ := h.get (i := i) (a := ren σ x) (by rw [renL_eq, List.getElem?_map, hx]; rfl)
    rw [hy] at h1
    obtain rfl := Option.some.inj h1
    exact h2.unren hinj hhi
end Go.AE

namespace Go.AE
open Go Go.RowKit

/-- A state by itself. -/
structure WfS (s : St) : Prop where
  le : 64 ≤ s.next
  dom : ∀ b o, s.heap.get b = some o → b < s.next ∧ NoLoop o
  famk : ∀ b o f, s.heap.get b = some o → o.fam = some f → ∃ F, s.fams.get f = some F
  fam : ∀ f F, s.fams.get f = some F → f < s.next ∧ ∃ o, s.heap.get F.live = some o ∧ o.fam = some f ∧ F.since ≤ F.live
/-- s0 stands in st, its numbers read by σ. -/
structure Part (σ : Nat → Nat) (s0 st : St) : Prop where
  mono : ∀ a b, a < b → σ a < σ b
  glob : ∀ g, g < 64 → σ g = g
  lt : ∀ b, b < s0.next → σ b < st.next
  hi : ∀ b, s0.next ≤ b → st.next ≤ σ b
  blk : ∀ b o, s0.heap.get b = some o → st.heap.get (σ b) = some (renO σ o)
  fam : ∀ f F, s0.fams.get f = some F → st.fams.get (σ f) = some (renF σ F)
  famcl : ∀ f F c o, s0.fams.get f = some F → st.heap.get c = some o → o.fam = some (σ f) → ∃ b o0, c = σ b ∧ s0.heap.get b = some o0
variable {σ : Nat → Nat} {s0 st : St}
theorem Part.inj (h : Part σ s0 st) {a b : Nat} (e : σ a = σ b) : a = b := by
  rcases Nat.lt_trichotomy a b with h1 | h1 | h1
  · have := h.mono a b h1; omega
  · exact h1
  · have := h.mono b a h1; omega
theorem Part.le (h : Part σ s0 st) {a b : Nat} (e : σ a ≤ σ b) : a ≤ b := by
  rcases Nat.lt_trichotomy a b with h1 | h1 | h1
  · omega
  · omega
  · have := h.mono b a h1; omega
theorem Part.le' (h : Part σ s0 st) {a b : Nat} (e : a ≤ b) : σ a ≤ σ b := by
  rcases Nat.lt_or_eq_of_le e with h1 | h1
  · exact Nat.le_of_lt (h.mono a b h1)
  · rw [h1]; exact Nat.le_refl _
theorem Part.ofam (h : Part σ s0 st) {o : AObj} {f : Nat} (e : (renO σ o).fam = some (σ f)) : o.fam = some f := by
  rw [renO_fam] at e
  cases ho : o.fam with
  | none => rw [ho] at e; cases e
  | some g =>
    rw [ho] at e
    rw [h.inj (Option.some.inj e)]

/-- The part by itself. -/
theorem Part.sim (h : Part σ s0 st) (hw : WfS s0) {B0 : Nat} {φ : Emb} {w : World} (hs : Sim B0 φ st w) : Sim B0 (fun b => φ (σ b)) s0 w := by
  have hrep : ∀ a u, Rep st.next φ (ren σ a) u → Rep s0.next (fun b => φ (σ b)) a u := fun a u k => k.unren (fun _ _ e => h.inj e) h.hi
  refine ⟨⟨hw.le, fun g hg => ?_, fun g hg => ?_⟩, hs.b0, hw.famk, fun b o hb => (hw.dom b o hb).1, fun b o hb => hs.bd _ _ (h.blk b o hb), fun b o hb hwr => hs.low _ _ (h.blk b o hb) (by rw [renO_wr]; exact hwr), ?_, ?_, ?_, fun b o hb => hs.on _ _ (h.blk b o hb)⟩
  · show (φ (σ g)).blk = g ∧ (φ (σ g)).add = 0
    rw [h.glob g hg]; exact hs.base.id g hg
  · show (φ (σ g)).z ≠ 0
    rw [h.glob g hg]; exact hs.base.on g hg
  · intro b b' o o' hb hb' he
    rcases hs.inj _ _ _ _ (h.blk b o hb) (h.blk b' o' hb') he with e | ⟨f, h1, h2⟩
    · exact .inl (h.inj e)
    · right
      rw [renO_fam] at h1 h2
      cases ho : o.fam with
      | none => rw [ho] at h1; cases h1
      | some g =>
        cases ho' : o'.fam with
        | none => rw [ho'] at h2; cases h2
        | some g' =>
          rw [ho] at h1; rw [ho'] at h2
          have := h.inj ((Option.some.inj h1).trans (Option.some.inj h2).symm)
          exact ⟨g, rfl, by rw [this]⟩
  · intro b o hb hsn
    refine (hs.obj _ _ (h.blk b o hb) fun f hf => ?_).unren hrep (hw.dom b o hb).2
    rw [renO_fam] at hf
    cases ho : o.fam with
    | none => rw [ho] at hf; cases hf
    | some g =>
      rw [ho] at hf
      obtain rfl := Option.some.inj hf
      obtain ⟨F, h1, h2⟩ := hsn g ho
      exact ⟨renF σ F, h.fam g F h1, h.le' h2⟩
  · intro f F hF
    obtain ⟨h1, o, h2, h3, h4⟩ := hw.fam f F hF
    refine ⟨h1, ?_⟩
    obtain ⟨_, BL, k⟩ := hs.fam _ _ (h.fam f F hF)
    cases o with
    | cells B =>
      have hB : B.k = .opn f := by
        obtain ⟨e, z, t, hi, room, kk⟩ := B
        cases kk <;> simp [AObj.fam] at h3
        rw [h3]
      have hbl := h.blk _ _ h2
      have hlive : st.heap.get (σ F.live) = some (.cells BL) := k.live
      rw [hbl] at hlive
      obtain rfl : renB σ B = BL := AObj.cells.inj (Option.some.inj hlive)
      have kind : ∀ {b : Nat} {B' : Blk}, s0.heap.get b = some (.cells B') → B'.k = .opn f → (renB σ B').k = .opn (σ f) := by
        intro b B' _ hk
        show renK σ B'.k = _
        rw [hk]; rfl
      refine ⟨B, h2, hB, h4, fun b B' hb hk => h.le (k.last (σ b) (renB σ B') (h.blk b _ hb) (kind hb hk)), fun b B' hb hk hle he => k.ends (σ b) (renB σ B') (h.blk b _ hb) (kind hb hk) (h.le' hle) he, k.froz⟩
    | _ => cases h3

/-- What has become of the whole: what was there is as it was; some of what the run made stands beside it. -/
structure Adds (σ : Nat → Nat) (s0 s1 st st' : St) : Prop where
  heap1 : ∀ b, b < s0.next → s1.heap.get b = s0.heap.get b
  fams1 : ∀ f, f < s0.next → s1.fams.get f = s0.fams.get f
  nx : st.next ≤ st'.next
  lt : ∀ b, b < s1.next → σ b < st'.next
  heap : ∀ c, c < st.next → st'.heap.get c = st.heap.get c
  fams : ∀ f, f < st.next → st'.fams.get f = st.fams.get f
  new : ∀ c o, st.next ≤ c → st'.heap.get c = some o → ∃ b o1, c = σ b ∧ s1.heap.get b = some o1 ∧ o = renO σ o1 ∧ NoLoop o1
  fam : ∀ f F, st.next ≤ f → st'.fams.get f = some F → ∃ g G, f = σ g ∧ s1.fams.get g = some G ∧ F = renF σ G ∧ ∀ b o, s1.heap.get b = some o → o.fam = some g → st'.heap.get (σ b) = some (renO σ o)
  famk : ∀ c o f, st.next ≤ c → st'.heap.get c = some o → o.fam = some f → ∃ F, st'.fams.get f = some F

open Classical in
/-- The embedding behind the run. -/
noncomputable def mergeE (σ : Nat → Nat) (n0 : Nat) (φ φ1 : Emb) : Emb := fun c => if h : ∃ b, n0 ≤ b ∧ c = σ b then φ1 h.choose else φ c
theorem mergeE_new (h : Part σ s0 st) {φ φ1 : Emb} {b : Nat} (hb : s0.next ≤ b) : mergeE σ s0.next φ φ1 (σ b) = φ1 b := by
  unfold mergeE
  have hx : ∃ b', s0.next ≤ b' ∧ σ b = σ b' := ⟨b, hb, rfl⟩
  rw [dif_pos hx, ← h.inj hx.choose_spec.2]
theorem mergeE_old (h : Part σ s0 st) {φ φ1 : Emb} {c : Nat} (hc : c < st.next) : mergeE σ s0.next φ φ1 c = φ c := by
  unfold mergeE
  rw [dif_neg]
  rintro ⟨b, hb, rfl⟩
  have := h.hi b hb
  omega

theorem opn_fam {B : Blk} {f : Nat} (h : B.k = .opn f) : (AObj.cells B).fam = some f := by simp [AObj.fam, h]
theorem fam_opn {o : AObj} {f : Nat} (h : o.fam = some f) : ∃ B, o = .cells B ∧ B.k = .opn f := by
  cases o with
  | cells B =>
    refine ⟨B, rfl, ?_⟩
    obtain ⟨e, z, t, hi, room, k⟩ := B
    cases k <;> simp [AObj.fam] at h
    rw [h]
  | _ => cases h
theorem renO_cells {σ : Nat → Nat} {o : AObj} {B : Blk} (h : renO σ o = .cells B) : ∃ B0, o = .cells B0 ∧ B = renB σ B0 := by
  cases o with
  | cells B0 => exact ⟨B0, rfl, (AObj.cells.inj h).symm⟩
  | _ => cases h

set_option maxHeartbeats 1000000 in
theorem Part.post {s1 st' : St} (h : Part σ s0 st) (hw : WfS s0) {B0 : Nat} {φ φ1 : Emb} {w w1 : World} (hs : Sim B0 φ st w) (ha : Adds σ s0 s1 st st') (hp : Post B0 (fun b => φ (σ b)) s0 w φ1 s1 w1) :
    Post B0 φ st w (mergeE σ s0.next φ φ1) st' w1 ∧ ∀ v u, Rep s1.next φ1 v u → Rep st'.next (mergeE σ s0.next φ φ1) (ren σ v) u := by
  have hag : ∀ b, b < s1.next → (φ1 b).z ≠ 0 → mergeE σ s0.next φ φ1 (σ b) = φ1 b ∧ σ b < st'.next := by
    intro b hb hz
    refine ⟨?_, ha.lt b hb⟩
    by_cases hlt : b < s0.next
    · rw [mergeE_old h (h.lt b hlt)]
      by_cases hz0 : (φ (σ b)).z = 0
      · exact absurd (hp.off b hlt hz0) hz
      · exact (hp.agr b hlt hz0).symm
    · exact mergeE_new h (by omega)
  have hrep : ∀ v u, Rep s1.next φ1 v u → Rep st'.next (mergeE σ s0.next φ φ1) (ren σ v) u := fun v u k => k.reren hag
  refine ⟨?_, hrep⟩
  have hagr : Agr st.next φ (mergeE σ s0.next φ φ1) := fun c hc _ => mergeE_old h hc
  have himg : ∀ {b : Nat} {o1 : AObj}, s1.heap.get b = some o1 → mergeE σ s0.next φ φ1 (σ b) = φ1 b := fun hb => (hag _ (hp.sim.dom _ _ hb) (hp.sim.on _ _ hb)).1
  -- the rest stands apart
  have disj0 : ∀ {c : Nat} {o : AObj} {b : Nat} {o0 : AObj}, st.heap.get c = some o → (∀ b o0, s0.heap.get b = some o0 → c ≠ σ b) → s0.heap.get b = some o0 → (φ (σ b)).blk ≠ (φ c).blk := by
    intro c o b o0 hc hno hb he
    rcases hs.inj _ _ _ _ hc (h.blk b o0 hb) he.symm with e | ⟨f, h1, h2⟩
    · exact hno b o0 hb e
    · rw [renO_fam] at h2
      cases ho : o0.fam with
      | none => rw [ho] at h2; cases h2
      | some g =>
        rw [ho] at h2
        obtain rfl := Option.some.inj h2
        obtain ⟨F, hF⟩ := hw.famk b o0 g hb ho
        obtain ⟨b', o', e, hb'⟩ := h.famcl g F c o hF hc h1
        exact hno b' o' hb' e
  have disj1 : ∀ {c : Nat} {o : AObj} {b : Nat} {o1 : AObj}, st.heap.get c = some o → (∀ b o0, s0.heap.get b = some o0 → c ≠ σ b) → s1.heap.get b = some o1 → (φ1 b).blk ≠ (φ c).blk := by
    intro c o b o1 hc hno hb he
    obtain ⟨_, i2, i3⟩ := hp.img b o1 hb
    by_cases hold : Old (fun b => φ (σ b)) s0 b
    · obtain ⟨o0, h0⟩ := i3 hold
      rw [hp.agr b hold.1 hold.2] at he
      exact disj0 hc hno h0 he
    · rcases i2 hold with h1 | ⟨b0, o0, h0, _, he0⟩
      · have := hs.bd c o hc; omega
      · exact disj0 hc hno h0 (he0.trans he)
  have same : ∀ {c : Nat} {o : AObj}, st.heap.get c = some o → (∀ b o0, s0.heap.get b = some o0 → c ≠ σ b) → w1.heap[(φ c).blk]? = w.heap[(φ c).blk]? :=
    fun hc hno => hp.keep _ (hs.bd _ _ hc) fun b o0 hb _ he => disj0 hc hno hb he
  -- what is new is of new families
  have newfam : ∀ {b : Nat} {o1 : AObj} {g : Nat}, s0.next ≤ b → s1.heap.get b = some o1 → o1.fam = some g → s0.next ≤ g := by
    intro b o1 g hb h1 hg
    refine Nat.le_of_not_lt fun hlt => ?_
    obtain ⟨G, hG⟩ := hp.sim.famk b o1 g h1 hg
    obtain ⟨_, BL, k⟩ := hp.sim.fam g G hG
    rw [ha.fams1 g hlt] at hG
    obtain ⟨_, o, h2, _, _⟩ := hw.fam g G hG
    have := (hw.dom _ _ h2).1
    obtain ⟨B, rfl, hk⟩ := fam_opn hg
    have := k.last b B h1 hk
    omega
  have hs1 : ∀ {b : Nat} {o0 : AObj}, s0.heap.get b = some o0 → s1.heap.get b = some o0 := fun hb => by rw [ha.heap1 _ (hw.dom _ _ hb).1]; exact hb
  -- a block of the whole: of the part, or of the rest, or new
  have kinds : ∀ {c : Nat} {o : AObj}, st'.heap.get c = some o → (∃ b o1, c = σ b ∧ s1.heap.get b = some o1 ∧ o = renO σ o1 ∧ NoLoop o1 ∧ ((b < s0.next ∧ s0.heap.get b = some o1) ∨ (s0.next ≤ b ∧ st.next ≤ c))) ∨
      (c < st.next ∧ st.heap.get c = some o ∧ ∀ b o0, s0.heap.get b = some o0 → c ≠ σ b) := by
    intro c o hc
    by_cases hlt : c < st.next
    · rw [ha.heap c hlt] at hc
      by_cases hx : ∃ b o0, s0.heap.get b = some o0 ∧ c = σ b
      · obtain ⟨b, o0, hb, rfl⟩ := hx
        have := h.blk b o0 hb
        rw [hc] at this
        exact .inl ⟨b, o0, rfl, hs1 hb, Option.some.inj this, (hw.dom b o0 hb).2, .inl ⟨(hw.dom b o0 hb).1, hb⟩⟩
      · exact .inr ⟨hlt, hc, fun b o0 hb e => hx ⟨b, o0, hb, e⟩⟩
    · obtain ⟨b, o1, rfl, h1, rfl, hl⟩ := ha.new c o (by omega) hc
      refine .inl ⟨b, o1, rfl, h1, rfl, hl, .inr ⟨?_, by omega⟩⟩
      refine Nat.le_of_not_lt fun hb => ?_
      have := h.lt b hb
      omega
  have famlt : ∀ {f : Nat} {F : Fam}, st.fams.get f = some F → f < st.next := fun hF => (hs.fam _ _ hF).1
  have seen1 : ∀ {b : Nat} {o1 : AObj}, s1.heap.get b = some o1 → Seen st' (σ b) (renO σ o1) → Seen s1 b o1 := by
    intro b o1 hb hsn g hg
    obtain ⟨F', hF', hle⟩ := hsn (σ g) (by rw [renO_fam, hg]; rfl)
    obtain ⟨G, hG⟩ := hp.sim.famk b o1 g hb hg
    refine ⟨G, hG, ?_⟩
    by_cases hlt : g < s0.next
    · rw [ha.fams1 g hlt] at hG
      rw [ha.fams _ (h.lt g hlt), h.fam g G hG] at hF'
      obtain rfl := Option.some.inj hF'
      exact h.le hle
    · have hge := h.hi g (by omega)
      obtain ⟨g', G', e, hG', rfl, _⟩ := ha.fam _ _ hge hF'
      obtain rfl := h.inj e
      rw [hG] at hG'
      obtain rfl := Option.some.inj hG'
      exact h.le hle
  have hsim : Sim B0 (mergeE σ s0.next φ φ1) st' w1 := by
    have hb64 := hs.base.le
    refine ⟨⟨Nat.le_trans hb64 ha.nx, fun g hg => ?_, fun g hg => ?_⟩, hp.sim.b0, ?_, ?_, ?_, ?_, ?_, ?_, ?_, ?_⟩
    · rw [mergeE_old h (by omega)]; exact hs.base.id g hg
    · rw [mergeE_old h (by omega)]; exact hs.base.on g hg
    · intro c o f hc hf
      by_cases hlt : c < st.next
      · rw [ha.heap c hlt] at hc
        obtain ⟨F, hF⟩ := hs.famk c o f hc hf
        exact ⟨F, by rw [ha.fams f (famlt hF)]; exact hF⟩
      · exact ha.famk c o f (by omega) hc hf
    · intro c o hc
      rcases kinds hc with ⟨b, o1, rfl, h1, _⟩ | ⟨hlt, _⟩
      · exact ha.lt b (hp.sim.dom _ _ h1)
      · exact Nat.lt_of_lt_of_le hlt ha.nx
    · intro c o hc
      rcases kinds hc with ⟨b, o1, rfl, h1, _⟩ | ⟨hlt, h2, _⟩
      · rw [himg h1]; exact hp.sim.bd _ _ h1
      · rw [mergeE_old h hlt]; exact Nat.lt_of_lt_of_le (hs.bd _ _ h2) hp.size
    · intro c o hc hwr
      rcases kinds hc with ⟨b, o1, rfl, h1, rfl, _⟩ | ⟨hlt, h2, _⟩
      · rw [himg h1]; exact hp.sim.low _ _ h1 (by rw [← renO_wr]; exact hwr)
      · rw [mergeE_old h hlt]; exact hs.low _ _ h2 hwr
    · intro c c' o o' hc hc' he
      rcases kinds hc with ⟨b, o1, rfl, h1, rfl, _⟩ | ⟨hlt, h2, h3⟩ <;> rcases kinds hc' with ⟨b', o1', rfl, h1', rfl, _⟩ | ⟨hlt', h2', h3'⟩
      · rw [himg h1, himg h1'] at he
        rcases hp.sim.inj _ _ _ _ h1 h1' he with e | ⟨g, k1, k2⟩
        · exact .inl (by rw [e])
        · exact .inr ⟨σ g, by rw [renO_fam, k1]; rfl, by rw [renO_fam, k2]; rfl⟩
      · rw [himg h1, mergeE_old h hlt'] at he
        exact absurd he (disj1 h2' h3' h1)
      · rw [himg h1', mergeE_old h hlt] at he
        exact absurd he.symm (disj1 h2 h3 h1')
      · rw [mergeE_old h hlt, mergeE_old h hlt'] at he
        exact hs.inj _ _ _ _ h2 h2' he
    · intro c o hc hsn
      rcases kinds hc with ⟨b, o1, rfl, h1, rfl, hl, _⟩ | ⟨hlt, h2, h3⟩
      · rw [himg h1]
        exact (hp.sim.obj b o1 h1 (seen1 h1 hsn)).reren hrep hl
      · rw [mergeE_old h hlt, same h2 h3]
        refine (hs.obj c o h2 fun f hf => ?_).mono ha.nx hagr
        obtain ⟨F, hF⟩ := hs.famk c o f h2 hf
        obtain ⟨F', hF', hle⟩ := hsn f hf
        rw [ha.fams f (famlt hF)] at hF'
        exact ⟨F', hF', hle⟩
    · intro f F hF
      by_cases hlt : f < st.next
      · refine ⟨Nat.lt_of_lt_of_le hlt ha.nx, ?_⟩
        rw [ha.fams f hlt] at hF
        by_cases hx : ∃ g G, s0.fams.get g = some G ∧ f = σ g
        · obtain ⟨g, G, hG, rfl⟩ := hx
          have := h.fam g G hG
          rw [hF] at this
          obtain rfl := Option.some.inj this
          obtain ⟨hg, o, ho, hof, hsl⟩ := hw.fam g G hG
          obtain ⟨_, BL, k⟩ := hp.sim.fam g G (by rw [ha.fams1 g hg]; exact hG)
          have hlive : s1.heap.get G.live = some (.cells BL) := k.live
          have hl0 : s0.heap.get G.live = some (.cells BL) := by rw [← ha.heap1 _ (hw.dom _ _ ho).1]; exact hlive
          have hlv : (mergeE σ s0.next φ φ1 (σ G.live)) = φ1 G.live := himg hlive
          have back : ∀ {c : Nat} {B : Blk}, st'.heap.get c = some (.cells B) → B.k = .opn (σ g) → ∃ b B1, c = σ b ∧ s1.heap.get b = some (.cells B1) ∧ B = renB σ B1 ∧ B1.k = .opn g := by
            intro c B hc hk
            rcases kinds hc with ⟨b, o1, rfl, h1, e, _⟩ | ⟨_, h2, h3⟩
            · obtain ⟨B1, rfl, rfl⟩ := renO_cells e.symm
              obtain ⟨B2, e2, hk2⟩ := fam_opn (h.ofam (o := .cells B1) (by rw [← e]; exact opn_fam hk))
              obtain rfl := AObj.cells.inj e2
              exact ⟨b, B1, rfl, h1, rfl, hk2⟩
            · obtain ⟨b, o0, e, hb⟩ := h.famcl g G c _ hG h2 (opn_fam hk)
              exact absurd e (h3 b o0 hb)
          refine ⟨renB σ BL, ?_, ?_, h.le' hsl, ?_, ?_, ?_⟩
          · show st'.heap.get (σ G.live) = _
            rw [ha.heap _ (h.lt _ (hw.dom _ _ ho).1)]
            exact h.blk _ _ hl0
          · show renK σ BL.k = _
            rw [k.kind]; rfl
          · intro c B hc hk
            obtain ⟨b, B1, rfl, h1, rfl, hk1⟩ := back hc hk
            exact h.le' (k.last b B1 h1 hk1)
          · intro c B hc hk hle he
            obtain ⟨b, B1, rfl, h1, rfl, hk1⟩ := back hc hk
            show (mergeE σ s0.next φ φ1 (σ b)).add + B1.hi * B1.z ≤ (mergeE σ s0.next φ φ1 (σ G.live)).add + BL.hi * BL.z
            have he : (mergeE σ s0.next φ φ1 (σ b)).blk = (mergeE σ s0.next φ φ1 (σ G.live)).blk := he
            rw [himg h1, hlv] at he ⊢
            exact k.ends b B1 h1 hk1 (h.le hle) he
          · intro c e fz hc
            have hc : w1.heap[(mergeE σ s0.next φ φ1 (σ G.live)).blk]? = some (.cells c e fz) := hc
            show FzOk G.mark c.size fz ((mergeE σ s0.next φ φ1 (σ G.live)).add + BL.hi * BL.z)
            rw [hlv] at hc ⊢
            exact k.froz c e fz hc
        · obtain ⟨_, BL, k⟩ := hs.fam f F hF
          have hll := hs.dom _ _ k.live
          have hnl : ∀ b o0, s0.heap.get b = some o0 → F.live ≠ σ b := by
            intro b o0 hb e
            have := h.blk b o0 hb
            rw [← e, k.live] at this
            have hf := opn_fam k.kind
            rw [Option.some.inj this, renO_fam] at hf
            cases ho : o0.fam with
            | none => rw [ho] at hf; cases hf
            | some g =>
              rw [ho] at hf
              obtain ⟨G, hG⟩ := hw.famk b o0 g hb ho
              exact hx ⟨g, G, hG, (Option.some.inj hf).symm⟩
          have back : ∀ {c : Nat} {B : Blk}, st'.heap.get c = some (.cells B) → B.k = .opn f → c < st.next ∧ st.heap.get c = some (.cells B) := by
            intro c B hc hk
            by_cases hcl : c < st.next
            · exact ⟨hcl, by rw [← ha.heap c hcl]; exact hc⟩
            · obtain ⟨b, o1, rfl, h1, e, _⟩ := ha.new c _ (by omega) hc
              have hf := opn_fam hk
              rw [e, renO_fam] at hf
              cases ho : o1.fam with
              | none => rw [ho] at hf; cases hf
              | some g =>
                rw [ho] at hf
                have hbn : s0.next ≤ b := Nat.le_of_not_lt fun hb => by have := h.lt b hb; omega
                have := h.hi g (newfam hbn h1 ho)
                have := Option.some.inj hf
                omega
          refine ⟨BL, by rw [ha.heap _ hll]; exact k.live, k.kind, k.since, fun c B hc hk => k.last c B (back hc hk).2 hk, fun c B hc hk hle he => ?_, fun c e fz hc => ?_⟩
          · obtain ⟨h1, h2⟩ := back hc hk
            rw [mergeE_old h h1, mergeE_old h hll] at *
            exact k.ends c B h2 hk hle he
          · rw [mergeE_old h hll, same k.live hnl] at hc
            rw [mergeE_old h hll]
            exact k.froz c e fz hc
      · obtain ⟨g, G, rfl, hG, rfl, hall⟩ := ha.fam f F (by omega) hF
        obtain ⟨hg, BL, k⟩ := hp.sim.fam g G hG
        refine ⟨ha.lt g hg, ?_⟩
        have hlv : (mergeE σ s0.next φ φ1 (σ G.live)) = φ1 G.live := himg k.live
        have back : ∀ {c : Nat} {B : Blk}, st'.heap.get c = some (.cells B) → B.k = .opn (σ g) → ∃ b B1, c = σ b ∧ s1.heap.get b = some (.cells B1) ∧ B = renB σ B1 ∧ B1.k = .opn g := by
          intro c B hc hk
          rcases kinds hc with ⟨b, o1, rfl, h1, e, _⟩ | ⟨_, h2, _⟩
          · obtain ⟨B1, rfl, rfl⟩ := renO_cells e.symm
            obtain ⟨B2, e2, hk2⟩ := fam_opn (h.ofam (o := .cells B1) (by rw [← e]; exact opn_fam hk))
            obtain rfl := AObj.cells.inj e2
            exact ⟨b, B1, rfl, h1, rfl, hk2⟩
          · obtain ⟨F', hF'⟩ := hs.famk c _ (σ g) h2 (opn_fam hk)
            have := famlt hF'
            omega
        refine ⟨renB σ BL, hall _ _ k.live (opn_fam k.kind), ?_, h.le' k.since, ?_, ?_, ?_⟩
        · show renK σ BL.k = _
          rw [k.kind]; rfl
        · intro c B hc hk
          obtain ⟨b, B1, rfl, h1, rfl, hk1⟩ := back hc hk
          exact h.le' (k.last b B1 h1 hk1)
        · intro c B hc hk hle he
          obtain ⟨b, B1, rfl, h1, rfl, hk1⟩ := back hc hk
          show (mergeE σ s0.next φ φ1 (σ b)).add + B1.hi * B1.z ≤ (mergeE σ s0.next φ φ1 (σ G.live)).add + BL.hi * BL.z
          have he : (mergeE σ s0.next φ φ1 (σ b)).blk = (mergeE σ s0.next φ φ1 (σ G.live)).blk := he
          rw [himg h1, hlv] at he ⊢
          exact k.ends b B1 h1 hk1 (h.le hle) he
        · intro c e fz hc
          have hc : w1.heap[(mergeE σ s0.next φ φ1 (σ G.live)).blk]? = some (.cells c e fz) := hc
          show FzOk G.mark c.size fz ((mergeE σ s0.next φ φ1 (σ G.live)).add + BL.hi * BL.z)
          rw [hlv] at hc ⊢
          exact k.froz c e fz hc
    · intro c o hc
      rcases kinds hc with ⟨b, o1, rfl, h1, _⟩ | ⟨hlt, h2, _⟩
      · rw [himg h1]; exact hp.sim.on _ _ h1
      · rw [mergeE_old h hlt]; exact hs.on _ _ h2
  refine ⟨⟨hagr, ha.nx, hsim, fun r hr hno => hp.keep r hr fun b o0 hb hwr he => hno (σ b) _ (h.blk b o0 hb) (by rw [renO_wr]; exact hwr) he, hp.size, hp.os, hp.tape, hp.output, fun c o hc => ?_⟩, fun c hc hz => by rw [mergeE_old h hc]; exact hz⟩
  by_cases hlt : c < st.next
  · rw [ha.heap c hlt] at hc
    exact ⟨fun hwr => .inl ⟨o, hc, hwr⟩, fun hn => absurd (hs.old c o hc) hn, fun _ => ⟨o, hc⟩⟩
  · obtain ⟨b, o1, rfl, h1, rfl, _⟩ := ha.new c o (by omega) hc
    have hbn : s0.next ≤ b := Nat.le_of_not_lt fun hb => by have := h.lt b hb; omega
    refine ⟨fun _ => .inr (Old.not (by omega)), fun _ => ?_, fun ho => absurd ho (Old.not (by omega))⟩
    rw [himg h1]
    rcases (hp.img b o1 h1).2.1 (Old.not hbn) with k | ⟨b0, o0, k1, k2, k3⟩
    · exact .inl k
    · exact .inr ⟨σ b0, _, h.blk b0 o0 k1, by rw [renO_wr]; exact k2, k3⟩
end Go.AE

namespace Go.AE
open Go Go.RowKit

theorem acall_in {C : Ctx} (hC : CtxOk C) {ex : Exec} (hex : ExOk C.P ex) {f : FuncId} {fn : Func} {c : Code} (hf : C.P.funcs[f]? = some fn) (hb : fn.body = some c) {args : List AV} {us : List Value} {v : AV} {st st' : St} {B0 : Nat} {φ : Emb} {w : World}
    (h : acall C ex f args st = some (v, st')) (hs : Sim B0 φ st w) (hr : RepL st.next φ args us) {R : Ending → World → Prop}
    (hR : ∀ φ' w' u, Post B0 φ st w φ' st' w' → Rep st'.next φ' v u → R (.returned u) w') : CallsIn Fence.wide 0 C.P f us.toArray w R := by
  unfold acall at h
  split at h
  · rename_i r hsum
    obtain rfl := Option.some.inj h
    exact (hC.sum f args _ _ _ hsum).2 B0 φ w us R hs hr hR
  · simp only [bnd_eq, nth_eq] at h
    obtain ⟨fn', hf', h⟩ := h
    have hf'' : C.P.funcs[f]? = some fn' := by simpa using hf'
    obtain rfl := Option.some.inj (hf.symm.trans hf'')
    unfold callF at h
    rw [hb] at h
    exact enter_ok hex hf hb h hs hr hR
/-- A call's answer, out of its run over a part of the state. -/
theorem part_sum {C : Ctx} (hC : CtxOk C) (hm : C.P.follows .mixedOrders = true) {f : FuncId} {fn : Func} {c : Code} (hf : C.P.funcs[f]? = some fn) (hb : fn.body = some c) {args : List AV} {v : AV} {σ : Nat → Nat} {s0 s1 st st' : St} (h : Part σ s0 st) (hw : WfS s0) (ha : Adds σ s0 s1 st st')
    {n : Nat} (hrun : acallN C n f args s0 = some (v, s1)) : SumOk C.P f (renL σ args) st (ren σ v) st' := by
  refine ⟨⟨fn, c, hf, hb⟩, fun B0 φ w us R hs hr hR => ?_⟩
  refine acall_in hC (aexec_sound hC hm n) hf hb hrun (h.sim hw hs) (hr.unren (fun _ _ e => h.inj e) h.hi) fun φ1 w1 u hp hu => ?_
  obtain ⟨h1, h2⟩ := h.post hw hs ha hp
  exact hR _ w1 u h1 (h2 v u hu)
end Go.AE

namespace Go.AE
open Go Go.RowKit

/-! What is alike -/
noncomputable def eqOL : Option (List AV) → Option (List AV) → Bool
  | none, none => true
  | some a, some b => sameL a b
  | _, _ => false
noncomputable def eqT : T (List AV) → T (List AV) → Bool
  | .nil, .nil => true
  | .node l v r, .node l' v' r' => eqT l l' && (eqOL v v' && eqT r r')
  | _, _ => false
noncomputable def eqK : Kind → Kind → Bool
  | .ro, .ro => true
  | .rw, .rw => true
  | .opn f, .opn g => Nat.beq f g
  | _, _ => false
noncomputable def eqM : List (AV × AV) → List (AV × AV) → Bool
  | [], [] => true
  | (a, b) :: x, (c, d) :: y => sameA a c && (sameA b d && eqM x y)
  | _, _ => false
noncomputable def eqB : Blk → Blk → Bool
  | ⟨e, z, t, hi, room, k⟩, ⟨e', z', t', hi', room', k'⟩ => Nat.beq e e' && (Nat.beq z z' && (Nat.beq hi hi' && (Nat.beq room room' && (eqK k k' && eqT t t'))))
noncomputable def eqO : AObj → AObj → Bool
  | .cells a, .cells b => eqB a b
  | .map a, .map b => eqM a b
  | _, _ => false
noncomputable def eqOO : Option AObj → Option AObj → Bool
  | none, none => true
  | some a, some b => eqO a b
  | _, _ => false
noncomputable def eqF : Option Fam → Option Fam → Bool
  | none, none => true
  | some ⟨a, b, c⟩, some ⟨a', b', c'⟩ => Nat.beq a a' && (Nat.beq b b' && Nat.beq c c')
  | _, _ => false
theorem eqOL_eq {a b : Option (List AV)} (h : eqOL a b = true) : a = b := by
  cases a <;> cases b <;> simp only [eqOL, reduceCtorEq] at h
  · rfl
  · rw [sameL_eq h]
theorem eqT_eq : ∀ {a b : T (List AV)}, eqT a b = true → a = b
  | .nil, .nil, _ => rfl
  | .nil, .node .., h => by simp [eqT] at h
  | .node .., .nil, h => by simp [eqT] at h
  | .node l v r, .node l' v' r', h => by
    simp only [eqT, Bool.and_eq_true] at h
    rw [eqT_eq h.1, eqOL_eq h.2.1, eqT_eq h.2.2]
theorem eqK_eq {a b : Kind} (h : eqK a b = true) : a = b := by
  cases a <;> cases b <;> simp only [eqK, reduceCtorEq] at h <;> try rfl
  rw [beq_true.1 h]
theorem eqM_eq : ∀ {a b : List (AV × AV)}, eqM a b = true → a = b
  | [], [], _ => rfl
  | [], _ :: _, h => by simp [eqM] at h
  | _ :: _, [], h => by simp [eqM] at h
  | (a, b) :: x, (c, d) :: y, h => by
    simp only [eqM, Bool.and_eq_true] at h
    rw [sameA_eq h.1, sameA_eq h.2.1, eqM_eq h.2.2]
theorem eqO_eq {a b : AObj} (h : eqO a b = true) : a = b := by
  cases a <;> cases b <;> simp only [eqO, reduceCtorEq] at h
  · rename_i x y
    obtain ⟨e, z, t, hi, room, k⟩ := x
    obtain ⟨e', z', t', hi', room', k'⟩ := y
    simp only [eqB, Bool.and_eq_true, beq_true] at h
    obtain ⟨h1, h2, h3, h4, h5, h6⟩ := h
    rw [h1, h2, h3, h4, eqK_eq h5, eqT_eq h6]
  · rw [eqM_eq h]
theorem eqO_loop {a b : AObj} (h : eqO a b = true) : NoLoop b := by
  cases a <;> cases b <;> simp only [eqO, reduceCtorEq] at h <;> trivial
theorem eqOO_eq {a b : Option AObj} (h : eqOO a b = true) : a = b := by
  cases a <;> cases b <;> simp only [eqOO, reduceCtorEq] at h
  · rfl
  · rw [eqO_eq h]
theorem eqF_eq {a b : Option Fam} (h : eqF a b = true) : a = b := by
  cases a with
  | none => cases b with
    | none => rfl
    | some b => simp [eqF] at h
  | some a => cases b with
    | none => simp [eqF] at h
    | some b =>
      obtain ⟨a1, a2, a3⟩ := a
      obtain ⟨b1, b2, b3⟩ := b
      simp only [eqF, Bool.and_eq_true, beq_true] at h
      obtain ⟨rfl, rfl, rfl⟩ := h
      rfl

/-! What names numbers below n alone -/
noncomputable def low1 (n : Nat) : AV → Bool
  | .bool _ | .int _ _ | .str _ | .nilp | .nils | .nilm | .nilf | .nili => true
  | .ptr b _ => Nat.blt b n
  | .slc b _ _ _ => Nat.blt b n
  | .map b => Nat.blt b n
  | _ => false
noncomputable def lowL (n : Nat) : List AV → Bool
  | [] => true
  | v :: r => low1 n v && lowL n r
noncomputable def lowA (n : Nat) : AV → Bool
  | .agg c => lowL n c
  | v => low1 n v
noncomputable def lowAs (n : Nat) : List AV → Bool
  | [] => true
  | v :: r => lowA n v && lowAs n r
noncomputable def lowOL (n : Nat) : Option (List AV) → Bool
  | none => true
  | some l => lowL n l
noncomputable def lowT (n : Nat) : T (List AV) → Bool
  | .nil => true
  | .node l v r => lowT n l && (lowOL n v && lowT n r)
noncomputable def lowM (n : Nat) : List (AV × AV) → Bool
  | [] => true
  | (a, b) :: r => lowA n a && (lowA n b && lowM n r)
noncomputable def lowK (n : Nat) : Kind → Bool
  | .opn f => Nat.blt f n
  | _ => true
noncomputable def lowO (n : Nat) : AObj → Bool
  | .cells ⟨_, _, t, _, _, k⟩ => lowK n k && lowT n t
  | .map es => lowM n es
  | .siter _ _ => true
  | .loop .. => false
section
variable {σ : Nat → Nat} {n : Nat} (hσ : ∀ b, b < n → σ b = b)
include hσ
theorem low1_ren {v : AV} (h : low1 n v = true) : ren σ v = v := by
  cases v <;> simp only [low1, reduceCtorEq, blt_true] at h <;> first | rfl | simp only [ren, hσ _ h]
theorem lowL_ren : ∀ {l : List AV}, lowL n l = true → renL σ l = l
  | [], _ => rfl
  | v :: r, h => by
    simp only [lowL, Bool.and_eq_true] at h
    rw [renL, low1_ren hσ h.1, lowL_ren h.2]
theorem lowA_ren {v : AV} (h : lowA n v = true) : ren σ v = v := by
  unfold lowA at h
  split at h
  · rw [ren, lowL_ren hσ h]
  · exact low1_ren hσ h
theorem lowAs_ren : ∀ {l : List AV}, lowAs n l = true → renL σ l = l
  | [], _ => rfl
  | v :: r, h => by
    simp only [lowAs, Bool.and_eq_true] at h
    rw [renL, lowA_ren hσ h.1, lowAs_ren h.2]
theorem lowT_ren : ∀ {t : T (List AV)}, lowT n t = true → t.map (renL σ) = t
  | .nil, _ => rfl
  | .node l v r, h => by
    simp only [lowT, Bool.and_eq_true] at h
    rw [T.map, lowT_ren h.1, lowT_ren h.2.2]
    cases v with
    | none => rfl
    | some l =>
      have := lowL_ren hσ h.2.1
      simp only [Option.map, this]
theorem lowM_ren : ∀ {es : List (AV × AV)}, lowM n es = true → (es.map fun p => (ren σ p.1, ren σ p.2)) = es
  | [], _ => rfl
  | (a, b) :: r, h => by
    simp only [lowM, Bool.and_eq_true] at h
    rw [List.map_cons, lowM_ren h.2.2]
    simp only [lowA_ren hσ h.1, lowA_ren hσ h.2.1]
theorem lowO_ren {o : AObj} (h : lowO n o = true) : renO σ o = o := by
  cases o with
  | cells B =>
    obtain ⟨e, z, t, hi, room, k⟩ := B
    simp only [lowO, Bool.and_eq_true] at h
    simp only [renO, renB, lowT_ren hσ h.2]
    cases k with
    | opn f => simp only [renK, hσ f (blt_true.1 h.1)]
    | ro => rfl
    | rw => rfl
  | map es =>
    simp only [lowO] at h
    simp only [renO, lowM_ren hσ h]
  | siter r p => rfl
  | loop => simp [lowO] at h
end

/-! A state that is known -/
structure Has (s0 st : St) : Prop where
  le : s0.next ≤ st.next
  heap : ∀ b o, s0.heap.get b = some o → st.heap.get b = some o
  fams : ∀ f F, s0.fams.get f = some F → st.fams.get f = some F
  cl : ∀ f F c o, s0.fams.get f = some F → st.heap.get c = some o → o.fam = some f → ∃ o0, s0.heap.get c = some o0
structure LowS (s0 : St) : Prop where
  wf : WfS s0
  low : ∀ b o, s0.heap.get b = some o → lowO s0.next o = true
  fam : ∀ f F, s0.fams.get f = some F → F.live < s0.next ∧ F.since < s0.next
def shift (n m b : Nat) : Nat := if b < n then b else m + (b - n)
theorem shift_low {n m b : Nat} (h : b < n) : shift n m b = b := if_pos h
theorem shift_hi {n m b : Nat} (h : n ≤ b) : shift n m b = m + (b - n) := if_neg (by omega)
theorem Has.part {s0 st : St} (h : Has s0 st) (h0 : LowS s0) : Part (shift s0.next st.next) s0 st := by
  have hid : ∀ b, b < s0.next → shift s0.next st.next b = b := fun b hb => shift_low hb
  have hle := h.le
  have h64 := h0.wf.le
  refine ⟨fun a b hab => ?_, fun g hg => hid g (by omega), fun b hb => by rw [hid b hb]; omega, fun b hb => by rw [shift_hi hb]; omega, fun b o hb => ?_, fun f F hF => ?_, fun f F c o hF hc ho => ?_⟩
  · unfold shift
    split <;> split <;> omega
  · rw [hid b (h0.wf.dom b o hb).1, lowO_ren hid (h0.low b o hb)]
    exact h.heap b o hb
  · obtain ⟨k1, k2⟩ := h0.fam f F hF
    rw [hid f (h0.wf.fam f F hF).1]
    have : renF (shift s0.next st.next) F = F := by
      cases F
      simp only [renF, hid _ k1, hid _ k2]
    rw [this]
    exact h.fams f F hF
  · rw [hid f (h0.wf.fam f F hF).1] at ho
    obtain ⟨o0, k⟩ := h.cl f F c o hF hc ho
    exact ⟨c, o0, (hid c (h0.wf.dom c o0 k).1).symm, k⟩

/-! What is laid -/
noncomputable def layH (σ : Nat → Nat) (h : T AObj) : List (Nat × AObj) → T AObj
  | [] => h
  | p :: r => (layH σ h r).set (σ p.1) (renO σ p.2)
noncomputable def layF (σ : Nat → Nat) (h : T Fam) : List (Nat × Fam) → T Fam
  | [] => h
  | p :: r => (layF σ h r).set (σ p.1) (renF σ p.2)
theorem layH_cases {σ : Nat → Nat} {h : T AObj} {c : Nat} : ∀ (l : List (Nat × AObj)), (∃ p ∈ l, σ p.1 = c ∧ (layH σ h l).get c = some (renO σ p.2)) ∨ ((∀ p ∈ l, σ p.1 ≠ c) ∧ (layH σ h l).get c = h.get c)
  | [] => .inr ⟨fun _ h => (nomatch h), rfl⟩
  | p :: r => by
    rw [layH, T.get_set]
    by_cases e : c = σ p.1
    · rw [if_pos e]; exact .inl ⟨p, List.mem_cons_self, e.symm, rfl⟩
    · rw [if_neg e]
      rcases layH_cases r with ⟨q, hq, h1, h2⟩ | ⟨h1, h2⟩
      · exact .inl ⟨q, List.mem_cons_of_mem _ hq, h1, h2⟩
      · refine .inr ⟨fun q hq => ?_, h2⟩
        rcases List.mem_cons.1 hq with rfl | hq
        · exact fun k => e k.symm
        · exact h1 q hq
theorem layF_cases {σ : Nat → Nat} {h : T Fam} {c : Nat} : ∀ (l : List (Nat × Fam)), (∃ p ∈ l, σ p.1 = c ∧ (layF σ h l).get c = some (renF σ p.2)) ∨ ((∀ p ∈ l, σ p.1 ≠ c) ∧ (layF σ h l).get c = h.get c)
  | [] => .inr ⟨fun _ h => (nomatch h), rfl⟩
  | p :: r => by
    rw [layF, T.get_set]
    by_cases e : c = σ p.1
    · rw [if_pos e]; exact .inl ⟨p, List.mem_cons_self, e.symm, rfl⟩
    · rw [if_neg e]
      rcases layF_cases r with ⟨q, hq, h1, h2⟩ | ⟨h1, h2⟩
      · exact .inl ⟨q, List.mem_cons_of_mem _ hq, h1, h2⟩
      · refine .inr ⟨fun q hq => ?_, h2⟩
        rcases List.mem_cons.1 hq with rfl | hq
        · exact fun k => e k.symm
        · exact h1 q hq
structure Memo where
  v : AV
  n1 : Nat
  live : List (Nat × AObj)
  fams : List (Nat × Fam)
noncomputable def addL (σ : Nat → Nat) (m : Memo) (st : St) : St := ⟨layH σ st.heap m.live, layF σ st.fams m.fams, σ m.n1⟩

/-! The check -/
noncomputable def hasK {α : Type} (k : Nat) : List (Nat × α) → Bool
  | [] => false
  | p :: r => Nat.beq p.1 k || hasK k r
theorem hasK_mem {α : Type} {k : Nat} : ∀ {l : List (Nat × α)}, hasK k l = true → ∃ p ∈ l, p.1 = k
  | [], h => by simp [hasK] at h
  | p :: r, h => by
    simp only [hasK, Bool.or_eq_true, beq_true] at h
    rcases h with h | h
    · exact ⟨p, List.mem_cons_self, h⟩
    · obtain ⟨q, h1, h2⟩ := hasK_mem h
      exact ⟨q, List.mem_cons_of_mem _ h1, h2⟩
theorem hasK_of {α : Type} {k : Nat} {x : α} : ∀ {l : List (Nat × α)}, (k, x) ∈ l → hasK k l = true
  | p :: r, h => by
    simp only [hasK, Bool.or_eq_true, beq_true]
    rcases List.mem_cons.1 h with rfl | h
    · exact .inl rfl
    · exact .inr (hasK_of h)
/-- Rows that are read alone, alike but for their elements' type. -/
noncomputable def roPair : Option AObj → Option AObj → Option (Nat × Nat)
  | some (.cells ⟨e, z, t, hi, room, .ro⟩), some (.cells ⟨e', z', t', hi', room', .ro⟩) => cnd (Nat.beq z z' && (Nat.beq hi hi' && (Nat.beq room room' && eqT t t'))) (some (e, e')) none
  | _, _ => none
theorem roPair_eq {a b : Option AObj} {p : Nat × Nat} (h : roPair a b = some p) (e : p.1 = p.2) : a = b := by
  unfold roPair at h
  split at h
  · rw [cnd_eq] at h
    obtain ⟨h1, h2⟩ := h
    simp only [Bool.and_eq_true, beq_true] at h1
    obtain ⟨rfl, rfl, rfl, h4⟩ := h1
    rw [eqT_eq h4]
    obtain rfl := Option.some.inj h2
    simp only at e
    rw [e]
  · cases h
noncomputable def agree1 (s0 s1 : St) (n : Nat) (k : List (Nat × Nat) → Option (List (Nat × Nat))) (acc : List (Nat × Nat)) : Option (Nat × Nat) → Option (List (Nat × Nat))
  | some p => cnd (eqF (s1.fams.get n) (s0.fams.get n)) (k (p :: acc)) none
  | none => cnd (eqOO (s1.heap.get n) (s0.heap.get n) && eqF (s1.fams.get n) (s0.fams.get n)) (k acc) none
/-- What has to be alike yet. -/
noncomputable def agreeTo (s0 s1 : St) : Nat → List (Nat × Nat) → Option (List (Nat × Nat))
  | 0, acc => some acc
  | n + 1, acc => agree1 s0 s1 n (agreeTo s0 s1 n) acc (roPair (s1.heap.get n) (s0.heap.get n))
theorem agreeTo_of {s0 s1 : St} : ∀ {n : Nat} {acc L : List (Nat × Nat)}, agreeTo s0 s1 n acc = some L → (∀ p ∈ L, p.1 = p.2) → (∀ p ∈ acc, p ∈ L) ∧ ∀ b, b < n → s1.heap.get b = s0.heap.get b ∧ s1.fams.get b = s0.fams.get b
  | 0, acc, L, h, _ => ⟨fun p hp => by rw [← Option.some.inj h]; exact hp, fun b hb => by omega⟩
  | n + 1, acc, L, h, hL => by
    simp only [agreeTo] at h
    cases hr : roPair (s1.heap.get n) (s0.heap.get n) with
    | some p =>
      rw [hr] at h
      simp only [agree1, cnd_eq] at h
      obtain ⟨h1, h2⟩ := agreeTo_of h.2 hL
      refine ⟨fun q hq => h1 q (List.mem_cons_of_mem _ hq), fun b hb => ?_⟩
      by_cases e : b = n
      · subst e
        exact ⟨roPair_eq hr (hL p (h1 p List.mem_cons_self)), eqF_eq h.1⟩
      · exact h2 b (by omega)
    | none =>
      rw [hr] at h
      simp only [agree1, cnd_eq, Bool.and_eq_true] at h
      obtain ⟨h1, h2⟩ := agreeTo_of h.2 hL
      refine ⟨h1, fun b hb => ?_⟩
      by_cases e : b = n
      · subst e
        exact ⟨eqOO_eq h.1.1, eqF_eq h.1.2⟩
      · exact h2 b (by omega)
noncomputable def coverB (m : Memo) (b : Nat) : Option AObj → Bool
  | some o => (match o.fam with | some f => !hasK f m.fams || hasK b m.live | none => true)
  | none => true
noncomputable def cover (m : Memo) (s1 : St) (n0 : Nat) : Nat → Bool
  | 0 => true
  | n + 1 => (Nat.blt n n0 || coverB m n (s1.heap.get n)) && cover m s1 n0 n
theorem cover_of {m : Memo} {s1 : St} {n0 : Nat} : ∀ {n : Nat}, cover m s1 n0 n = true → ∀ b, n0 ≤ b → b < n → coverB m b (s1.heap.get b) = true
  | 0, _, b, _, hb => by omega
  | n + 1, h, b, h0, hb => by
    simp only [cover, Bool.and_eq_true, Bool.or_eq_true, blt_true] at h
    by_cases e : b = n
    · subst e
      rcases h.1 with h | h
      · omega
      · exact h
    · exact cover_of h.2 b h0 (by omega)
noncomputable def liveOk (m : Memo) (s1 : St) (n0 : Nat) : List (Nat × AObj) → Bool
  | [] => true
  | (b, o) :: r => (Nat.ble n0 b && (Nat.blt b m.n1 && (eqOO (s1.heap.get b) (some o) && (match o.fam with | some f => hasK f m.fams | none => true)))) && liveOk m s1 n0 r
noncomputable def famsOk (s1 : St) (n0 : Nat) : List (Nat × Fam) → Bool
  | [] => true
  | (g, F) :: r => (Nat.ble n0 g && eqF (s1.fams.get g) (some F)) && famsOk s1 n0 r
theorem liveOk_mem {m : Memo} {s1 : St} {n0 : Nat} : ∀ {l : List (Nat × AObj)}, liveOk m s1 n0 l = true → ∀ p ∈ l, n0 ≤ p.1 ∧ p.1 < m.n1 ∧ s1.heap.get p.1 = some p.2 ∧ NoLoop p.2 ∧ ∀ f, p.2.fam = some f → hasK f m.fams = true
  | [], _, p, hp => by cases hp
  | (b, o) :: r, h, p, hp => by
    simp only [liveOk, Bool.and_eq_true, ble_true, blt_true] at h
    rcases List.mem_cons.1 hp with rfl | hp
    · obtain ⟨⟨h1, h2, h3, h4⟩, _⟩ := h
      refine ⟨h1, h2, eqOO_eq h3, ?_, fun f hf => ?_⟩
      · cases hx : s1.heap.get b with
        | none => rw [hx] at h3; simp [eqOO] at h3
        | some x => rw [hx] at h3; exact eqO_loop h3
      · rw [hf] at h4; exact h4
    · exact liveOk_mem h.2 p hp
theorem famsOk_mem {s1 : St} {n0 : Nat} : ∀ {l : List (Nat × Fam)}, famsOk s1 n0 l = true → ∀ p ∈ l, n0 ≤ p.1 ∧ s1.fams.get p.1 = some p.2
  | [], _, p, hp => by cases hp
  | (g, F) :: r, h, p, hp => by
    simp only [famsOk, Bool.and_eq_true, ble_true] at h
    rcases List.mem_cons.1 hp with rfl | hp
    · exact ⟨h.1.1, eqF_eq h.1.2⟩
    · exact famsOk_mem h.2 p hp
/-- Has the run come to what the memo says? What has to be alike yet. -/
noncomputable def memoOk (s0 : St) (m : Memo) : Option (AV × St) → Option (List (Nat × Nat))
  | some (u, s1) => cnd (sameV u m.v && (Nat.beq s1.next m.n1 && (Nat.ble s0.next m.n1 && (liveOk m s1 s0.next m.live && (famsOk s1 s0.next m.fams && cover m s1 s0.next m.n1))))) (agreeTo s0 s1 s0.next []) none
  | none => none
theorem memoOk_adds {σ : Nat → Nat} {s0 st : St} {m : Memo} {r : Option (AV × St)} {L : List (Nat × Nat)} (h : memoOk s0 m r = some L) (hL : ∀ p ∈ L, p.1 = p.2) (hp : Part σ s0 st) (hwf : ∀ b o f, s0.heap.get b = some o → o.fam = some f → ¬ s0.next ≤ f) (hd : ∀ b o, st.heap.get b = some o → b < st.next) (hf : ∀ f F, st.fams.get f = some F → f < st.next) :
    ∃ s1, r = some (m.v, s1) ∧ ((∀ b o, s1.heap.get b = some o → b < s1.next) → Adds σ s0 s1 st (addL σ m st)) := by
  unfold memoOk at h
  split at h
  · rename_i u s1
    simp only [cnd_eq, Bool.and_eq_true, beq_true, ble_true] at h
    obtain ⟨⟨h1, h2, h3, h4, h5, h7⟩, h6⟩ := h
    obtain rfl := sameV_eq h1
    refine ⟨s1, rfl, fun hdom => ?_⟩
    have hag := (agreeTo_of h6 hL).2
    have hlv := liveOk_mem h4
    have hfm := famsOk_mem h5
    have hcv := cover_of h7
    unfold addL
    have hhi := hp.hi
    refine ⟨fun b hb => (hag b hb).1, fun f hf => (hag f hf).2, hhi _ h3, fun b hb => hp.mono _ _ (by omega), fun c hc => ?_, fun f hf => ?_, fun c o hc ho => ?_, fun f F hf' hF => ?_, fun c o f hc ho hof => ?_⟩
    · rcases layH_cases (σ := σ) (h := st.heap) (c := c) m.live with ⟨p, hp1, hp2, _⟩ | ⟨_, k⟩
      · have := hhi p.1 (hlv p hp1).1
        omega
      · exact k
    · rcases layF_cases (σ := σ) (h := st.fams) (c := f) m.fams with ⟨p, hp1, hp2, _⟩ | ⟨_, k⟩
      · have := hhi p.1 (hfm p hp1).1
        omega
      · exact k
    · rcases layH_cases (σ := σ) (h := st.heap) (c := c) m.live with ⟨p, hp1, hp2, k⟩ | ⟨_, k⟩
      · refine ⟨p.1, p.2, hp2.symm, (hlv p hp1).2.2.1, ?_, (hlv p hp1).2.2.2.1⟩
        exact Option.some.inj (ho.symm.trans k)
      · have := hd c o (k.symm.trans ho)
        omega
    · rcases layF_cases (σ := σ) (h := st.fams) (c := f) m.fams with ⟨p, hp1, hp2, k⟩ | ⟨_, k⟩
      · refine ⟨p.1, p.2, hp2.symm, (hfm p hp1).2, Option.some.inj (hF.symm.trans k), fun b o hb ho => ?_⟩
        have hfl : s0.next ≤ b := by
          rcases Nat.lt_or_ge b s0.next with hlt | hge
          · exfalso
            rw [(hag b hlt).1] at hb
            have := (hfm p hp1).1
            rcases (Nat.lt_or_ge p.1 s0.next) with q | q
            · omega
            · exact hwf b o p.1 hb ho q
          · exact hge
        have hc := hcv b hfl (by have := hdom b o hb; omega)
        rw [hb] at hc
        simp only [coverB, ho, hasK_of (l := m.fams) (x := p.2) hp1, Bool.not_true, Bool.false_or] at hc
        rcases layH_cases (σ := σ) (h := st.heap) (c := σ b) m.live with ⟨q, hq1, hq2, k2⟩ | ⟨k1, _⟩
        · have e := hp.inj hq2
          have := (hlv q hq1).2.2.1
          rw [e, hb] at this
          rw [Option.some.inj this]
          exact k2
        · obtain ⟨q, hq, e⟩ := hasK_mem hc
          exact absurd (by rw [e]) (k1 q hq)
      · have := hf f F (k.symm.trans hF)
        omega
    · rcases layH_cases (σ := σ) (h := st.heap) (c := c) m.live with ⟨p, hp1, hp2, k⟩ | ⟨_, k⟩
      · obtain rfl := Option.some.inj (ho.symm.trans k)
        rw [renO_fam] at hof
        cases hx : p.2.fam with
        | none => rw [hx] at hof; cases hof
        | some g =>
          rw [hx] at hof
          obtain rfl := Option.some.inj hof
          obtain ⟨q, hq, e⟩ := hasK_mem ((hlv p hp1).2.2.2.2 g hx)
          rcases layF_cases (σ := σ) (h := st.fams) (c := σ g) m.fams with ⟨q, _, _, k⟩ | ⟨k1, _⟩
          · exact ⟨_, k⟩
          · exact absurd (by rw [e]) (k1 q hq)
      · have := hd c o (k.symm.trans ho)
        omega
  · cases h

/-- A call's answer, out of its run over a part of the state. -/
theorem memo_part {C : Ctx} (hC : CtxOk C) (hm : C.P.follows .mixedOrders = true) {f : FuncId} {fn : Func} {c : Code} (hf : C.P.funcs[f]? = some fn) (hb : fn.body = some c) {args : List AV} {σ : Nat → Nat} {s0 st : St} {m : Memo} (h0 : WfS s0) (hp : Part σ s0 st) {n : Nat} {L : List (Nat × Nat)}
    (hrun : memoOk s0 m (acallN C n f args s0) = some L) (hL : ∀ p ∈ L, p.1 = p.2) : SumOk C.P f (renL σ args) st (ren σ m.v) (addL σ m st) := by
  refine ⟨⟨fn, c, hf, hb⟩, fun B0 φ w us R hs hr hR => ?_⟩
  obtain ⟨s1, hrun, hadd⟩ := memoOk_adds hrun hL hp (fun b o f hb ho => by
    obtain ⟨F, hF⟩ := h0.famk b o f hb ho
    have := (h0.fam f F hF).1
    omega) hs.dom (fun f F hF => (hs.fam f F hF).1)
  refine acall_in hC (aexec_sound hC hm n) hf hb hrun (hp.sim h0 hs) (hr.unren (fun _ _ e => hp.inj e) hp.hi) fun φ1 w1 u hpo hu => ?_
  obtain ⟨h1, h2⟩ := hp.post h0 hs (hadd hpo.sim.dom) hpo
  exact hR _ w1 u h1 (h2 _ u hu)
/-- A call's answer, out of its run over a state that is known. -/
theorem memo_sum {C : Ctx} (hC : CtxOk C) (hm : C.P.follows .mixedOrders = true) {f : FuncId} {fn : Func} {c : Code} (hf : C.P.funcs[f]? = some fn) (hb : fn.body = some c) {args : List AV} {s0 st : St} {m : Memo} (h0 : LowS s0) (h : Has s0 st) (hargs : lowAs s0.next args = true) {n : Nat} {L : List (Nat × Nat)}
    (hrun : memoOk s0 m (acallN C n f args s0) = some L) (hL : ∀ p ∈ L, p.1 = p.2) : SumOk C.P f args st (ren (shift s0.next st.next) m.v) (addL (shift s0.next st.next) m st) := by
  have := memo_part hC hm hf hb h0.wf (h.part h0) hrun hL
  rwa [lowAs_ren (σ := shift s0.next st.next) (fun b hb => shift_low hb) hargs] at this
/-- What the memo lays is new. -/
structure Memo.New (m : Memo) (n0 : Nat) : Prop where
  le : n0 ≤ m.n1
  live : ∀ p ∈ m.live, n0 ≤ p.1 ∧ p.1 < m.n1
  fams : ∀ p ∈ m.fams, n0 ≤ p.1 ∧ p.1 < m.n1
  kin : ∀ p ∈ m.live, ∀ f, p.2.fam = some f → n0 ≤ f
noncomputable def newF (n0 n1 : Nat) : List (Nat × Fam) → Bool
  | [] => true
  | p :: r => Nat.ble n0 p.1 && (Nat.blt p.1 n1 && newF n0 n1 r)
noncomputable def newH (n0 n1 : Nat) : List (Nat × AObj) → Bool
  | [] => true
  | p :: r => Nat.ble n0 p.1 && (Nat.blt p.1 n1 && ((match p.2.fam with | some f => Nat.ble n0 f | none => true) && newH n0 n1 r))
noncomputable def Memo.newB (m : Memo) (n0 : Nat) : Bool := Nat.ble n0 m.n1 && (newH n0 m.n1 m.live && newF n0 m.n1 m.fams)
theorem Memo.newB_of {m : Memo} {n0 : Nat} (h : m.newB n0 = true) : m.New n0 := by
  simp only [Memo.newB, Bool.and_eq_true, ble_true] at h
  obtain ⟨h1, h2, h3⟩ := h
  have hH : ∀ {l : List (Nat × AObj)}, newH n0 m.n1 l = true → ∀ p ∈ l, (n0 ≤ p.1 ∧ p.1 < m.n1) ∧ ∀ f, p.2.fam = some f → n0 ≤ f := by
    intro l
    induction l with
    | nil => intro _ p hp; cases hp
    | cons q r ih =>
      intro h p hp
      simp only [newH, Bool.and_eq_true, ble_true, blt_true] at h
      rcases List.mem_cons.1 hp with rfl | hp
      · refine ⟨⟨h.1, h.2.1⟩, fun f hf => ?_⟩
        have h3 := h.2.2.1
        rw [hf] at h3
        exact ble_true.1 h3
      · exact ih h.2.2.2 p hp
  have hF : ∀ {l : List (Nat × Fam)}, newF n0 m.n1 l = true → ∀ p ∈ l, n0 ≤ p.1 ∧ p.1 < m.n1 := by
    intro l
    induction l with
    | nil => intro _ p hp; cases hp
    | cons q r ih =>
      intro h p hp
      simp only [newF, Bool.and_eq_true, ble_true, blt_true] at h
      rcases List.mem_cons.1 hp with rfl | hp
      · exact ⟨h.1, h.2.1⟩
      · exact ih h.2.2 p hp
  exact ⟨h1, fun p hp => (hH h2 p hp).1, hF h3, fun p hp => (hH h2 p hp).2⟩
end Go.AE

namespace Go.AE
open Go Go.RowKit

/-- What is known, but for those temporaries nothing. -/
noncomputable def maskE (ts : List Tmp) : Env → Env
  | [] => []
  | (d, v) :: r => bif elemN d ts then (d, v) :: maskE ts r else maskE ts r
theorem lookE_mask {ts : List Tmp} {t : Tmp} {v : AV} : ∀ {env : Env}, lookE t (maskE ts env) = some v → t ∈ ts ∧ lookE t env = some v
  | [], h => by cases h
  | (d, u) :: r, h => by
    simp only [maskE] at h
    rw [lookE_cons]
    cases hd : elemN d ts with
    | true =>
      rw [hd] at h
      simp only [cond_true] at h
      rw [lookE_cons] at h
      by_cases e : t = d
      · rw [if_pos e] at h ⊢
        subst e
        exact ⟨elemN_mem.1 hd, h⟩
      · rw [if_neg e] at h ⊢
        exact lookE_mask h
    | false =>
      rw [hd] at h
      simp only [cond_false] at h
      obtain ⟨h1, h2⟩ := lookE_mask h
      have e : t ≠ d := by
        rintro rfl
        rw [elemN_mem.2 h1] at hd
        cases hd
      rw [if_neg e]
      exact ⟨h1, h2⟩
theorem FrIs.mask {nt : Nat} {rd : Option Nat} {env : Env} {fr : Fr} (h : FrIs nt rd env fr) (ts : List Tmp) : FrIs nt rd (maskE ts env) (maskFr ts fr) := by
  refine ⟨h.nt, h.rd, fun t v ht => ?_⟩
  obtain ⟨h1, h2⟩ := lookE_mask ht
  rw [maskFr_get, if_pos h1]
  exact h.val t v h2

noncomputable def aallocR (P : Program) (ρ : Rho) (id : Nat) : Op → Option (AV × AObj)
  | .alloc e => oAlloc P e id
  | .box e x => (ρ x).bnd fun v => oBox e v id
  | .buildSlice t n ps => (evpsR ρ ps.toList).bnd fun ps => oBuildSlice P t n ps id
  | .makeMap _ none => some (.map id, .map [])
  | _ => none
theorem aallocR_ok {P : Program} {fr : Fr} {ρ : Rho} (hρ : ∀ x v, ρ x = some v → ev fr x = some v) {op : Op} {id : Nat} {r : AV × AObj} (h : aallocR P ρ id op = some r) : aalloc P fr op id = some r := by
  unfold aallocR at h
  split at h
  · exact h
  · rw [bnd_eq] at h
    obtain ⟨v, h1, h2⟩ := h
    simp only [aalloc, hρ _ _ h1, bnd_some]
    exact h2
  · rw [bnd_eq] at h
    obtain ⟨v, h1, h2⟩ := h
    simp only [aalloc, evpsR_ok hρ h1, bnd_some]
    exact h2
  · exact h
  · cases h

structure RE where
  i : Nat
  op : Op
  env : Env
  v : AV
def REok (nt : Nat) (rd : Option Nat) (r : Nat × Op × Fr × AV) (e : RE) : Prop := r.1 = e.i ∧ r.2.1 = e.op ∧ r.2.2.2 = e.v ∧ FrIs nt rd e.env r.2.2.1
def ReL (nt : Nat) (rd : Option Nat) : List (Nat × Op × Fr × AV) → List RE → Prop
  | [], [] => True
  | r :: rs, e :: es => REok nt rd r e ∧ ReL nt rd rs es
  | _, _ => False
abbrev Hist := List (Nat × Nat × St)
abbrev Alloc := List (Nat × Nat × AObj)
abbrev PostD := Env → St → List RE → Hist → Alloc → Nat → Prop
def WD (C : Ctx) (nt : Nat) (rd : Option Nat) (base : Nat) (b : List Nat) (l : List SO) (i : Nat) (env : Env) (st : St) (re : List RE) (hist : Hist) (al : Alloc) (laid : Nat) (K : PostD) : Prop :=
  ∀ all rest, soL all rest = some l → ∀ fr, FrIs nt rd env fr → ∀ reads, ReL nt rd reads re → ∃ D', Evt (fun n => aopsD C (aexec C n) base b all rest i ⟨fr, st, reads, hist, al, laid⟩) D' ∧
    ∃ env' re', FrIs nt rd env' D'.fr ∧ ReL nt rd D'.reads re' ∧ K env' D'.st re' D'.hist D'.al D'.laid

variable {C : Ctx} {nt : Nat} {rd : Option Nat} {env : Env} {st st' : St} {Q : Post3} {ks : List Kont} {base : Nat} {b : List Nat} {s : SO} {l : List SO} {i : Nat} {re : List RE} {hist : Hist} {al : Alloc} {laid : Nat} {K : PostD}
theorem WD.nil (h : K env st re hist al laid) : WD C nt rd base b [] i env st re hist al laid K := by
  intro all rest hr fr hf reads hre
  rcases soL_some hr with ⟨rfl, _⟩ | ⟨_, _, _, _, _, h', _⟩
  · exact ⟨⟨fr, st, reads, hist, al, laid⟩, Evt.const fun _ => rfl, env, re, hf, hre, h⟩
  · cases h'
theorem WD.any {env1 : Env} {st1 : St} {re1 : List RE} {hist1 : Hist} {al1 : Alloc} {laid1 : Nat}
    (h : ∀ (all : List Oper) (o : Oper), soOf all o = some s → ∀ fr, FrIs nt rd env fr → ∀ reads, ReL nt rd reads re → ∃ fr1 reads1, Evt (fun n => dOne C (aexec C n) base b all o i ⟨fr, st, reads, hist, al, laid⟩) ⟨fr1, st1, reads1, hist1, al1, laid1⟩ ∧ FrIs nt rd env1 fr1 ∧ ReL nt rd reads1 re1)
    (k : WD C nt rd base b l (i + 1) env1 st1 re1 hist1 al1 laid1 K) : WD C nt rd base b (s :: l) i env st re hist al laid K := by
  intro all rest hr fr hf reads hre
  rcases soL_some hr with ⟨_, h'⟩ | ⟨o, r', s', l', rfl, h', h1, h2⟩
  · cases h'
  · obtain ⟨rfl, rfl⟩ := List.cons.inj h'
    obtain ⟨fr1, reads1, e1, e2, e3⟩ := h all o h1 fr hf reads hre
    obtain ⟨D', k1, k2⟩ := k all r' h2 fr1 e2 reads1 e3
    exact ⟨D', Evt.bnd (k := fun n => aopsD C (aexec C n) base b all r' (Nat.succ i)) e1 k1, k2⟩
/-- The guard says yes. -/
def On (env : Env) (s : SO) : Prop := s.g = none ∨ ∃ t w, s.g = some (t, w) ∧ lookE t env = some (.bool w)
theorem On.wants {all : List Oper} {o : Oper} (h : On env s) (hs : soOf all o = some s) {fr : Fr} (hf : FrIs nt rd env fr) : wants all fr o = true := by
  obtain ⟨_, _, e3⟩ := soOf_op hs
  rcases h with hg | ⟨t, w, hg, ht⟩
  · exact (e3 fr).1 hg
  · rw [(e3 fr).2 t w hg w (hf.val _ _ ht)]
    cases w <;> rfl
theorem dOne_on {ex : Exec} {all : List Oper} {o : Oper} {D : Draw} (h : wants all D.fr o = true) : dOne C ex base b all o i D = dstep C ex base ((nth b i).getD 0) i o (opKind C.P o.op) D := by
  unfold dOne; rw [h]; rfl
noncomputable def opsTmps (op : Op) : List Tmp := tmpsIn op.operands.toList
theorem WD.pure {d : Tmp} {v : AV} (hd : s.dst = some d) (hg : On env s) (hk : opKind C.P s.op = .pure) (h : aopR C.P (evE (maskE (opsTmps s.op) env)) st s.op = some (v, st')) (hlt : Nat.blt d nt = true)
    (k : WD C nt rd base b l (i + 1) ((d, v) :: env) st re hist al laid K) : WD C nt rd base b (s :: l) i env st re hist al laid K := by
  refine WD.any (fun all o hs fr hf reads hre => ?_) k
  obtain ⟨e1, e2, _⟩ := soOf_op hs
  obtain ⟨fr1, p1, p2⟩ := hf.put hlt v
  refine ⟨fr1, reads, Evt.const fun n => ?_, p2, hre⟩
  rw [dOne_on (hg.wants hs hf), ← e1, hk]
  have := aopR_ok (fun x v => evE_ok (hf.mask (opsTmps s.op))) (aexec C n) h
  show (aop C (aexec C n) (maskFr (tmpsIn o.op.operands.toList) fr) st o).bnd _ = _
  unfold aop
  rw [← e1]
  rw [show tmpsIn s.op.operands.toList = opsTmps s.op from rfl, this]
  show (fr.put o.dst v).bnd _ = _
  rw [← e2, hd, p1]; rfl
theorem WD.read {d : Tmp} {v : AV} (hd : s.dst = some d) (hg : On env s) (hk : opKind C.P s.op = .read) (h : aopR C.P (evE (maskE (opsTmps s.op) env)) st s.op = some (v, st')) (hlt : Nat.blt d nt = true)
    (k : WD C nt rd base b l (i + 1) ((d, v) :: env) st (⟨i, s.op, maskE (opsTmps s.op) env, v⟩ :: re) hist al laid K) : WD C nt rd base b (s :: l) i env st re hist al laid K := by
  refine WD.any (fun all o hs fr hf reads hre => ?_) k
  obtain ⟨e1, e2, _⟩ := soOf_op hs
  obtain ⟨fr1, p1, p2⟩ := hf.put hlt v
  refine ⟨fr1, (i, s.op, maskFr (opsTmps s.op) fr, v) :: reads, Evt.const fun n => ?_, p2, ⟨⟨rfl, rfl, rfl, hf.mask _⟩, hre⟩⟩
  rw [dOne_on (hg.wants hs hf), ← e1, hk]
  have := aopR_ok (fun x v => evE_ok (hf.mask (opsTmps s.op))) (aexec C n) h
  show (aop C (aexec C n) (maskFr (tmpsIn o.op.operands.toList) fr) st o).bnd _ = _
  unfold aop
  rw [← e1]
  rw [show tmpsIn s.op.operands.toList = opsTmps s.op from rfl, this]
  show (fr.put o.dst v).bnd _ = _
  rw [← e2, hd, p1, bnd_some]
theorem WD.alloc {d : Tmp} {v : AV} {ob : AObj} (hd : s.dst = some d) (hg : On env s) (hk : opKind C.P s.op = .alloc) (h : aallocR C.P (evE (maskE (opsTmps s.op) env)) (base + i) s.op = some (v, ob)) (hlt : Nat.blt d nt = true)
    (k : WD C nt rd base b l (i + 1) ((d, v) :: env) st re hist ((i, base + i, ob) :: al) laid K) : WD C nt rd base b (s :: l) i env st re hist al laid K := by
  refine WD.any (fun all o hs fr hf reads hre => ?_) k
  obtain ⟨e1, e2, _⟩ := soOf_op hs
  obtain ⟨fr1, p1, p2⟩ := hf.put hlt v
  refine ⟨fr1, reads, Evt.const fun n => ?_, p2, hre⟩
  rw [dOne_on (hg.wants hs hf), ← e1, hk]
  have := aallocR_ok (fun x v => evE_ok (hf.mask (opsTmps s.op))) h
  show (aalloc C.P (maskFr (tmpsIn o.op.operands.toList) fr) o.op (base + i)).bnd _ = _
  rw [← e1]
  rw [show tmpsIn s.op.operands.toList = opsTmps s.op from rfl, this]
  show (fr.put o.dst v).bnd _ = _
  rw [← e2, hd, p1]; rfl
/-- An effect, whatever it is. -/
theorem WD.effAny {env1 : Env} {v : AV} (hput : ∀ fr, FrIs nt rd env fr → ∃ fr1, fr.put s.dst v = some fr1 ∧ FrIs nt rd env1 fr1) (hg : On env s) (hk : opKind C.P s.op = .effect) (hh : headIn ((nth b i).getD 0) hist = true)
    (h : ∀ (o : Oper), o.op = s.op → ∀ fr, FrIs nt rd (maskE (opsTmps s.op) env) fr → Evt (fun n => aop C (aexec C n) fr (layIn ((nth b i).getD 0) laid al st) o) (v, st'))
    (k : WD C nt rd base b l (i + 1) env1 st' re ((i, (nth b i).getD 0, st') :: hist) al (Nat.lor laid ((nth b i).getD 0)) K) : WD C nt rd base b (s :: l) i env st re hist al laid K := by
  refine WD.any (fun all o hs fr hf reads hre => ?_) k
  obtain ⟨e1, e2, _⟩ := soOf_op hs
  obtain ⟨fr1, p1, p2⟩ := hput fr hf
  refine ⟨fr1, reads, ?_, p2, hre⟩
  obtain ⟨N, hN⟩ := h o e1.symm _ (hf.mask (opsTmps s.op))
  refine ⟨N, fun n hn => ?_⟩
  show dOne C (aexec C n) base b all o i _ = _
  rw [dOne_on (hg.wants hs hf), ← e1, hk]
  have hn' : aop C (aexec C n) (maskFr (opsTmps s.op) fr) (layIn ((nth b i).getD 0) laid al st) o = some (v, st') := hN n hn
  simp only [dstep, dEffect, hh, cond_true]
  rw [show tmpsIn o.op.operands.toList = opsTmps s.op from by rw [← e1]; rfl, hn']
  show (fr.put o.dst v).bnd _ = _
  rw [← e2, p1]; rfl
theorem WD.eff {d : Tmp} {v : AV} (hd : s.dst = some d) (hg : On env s) (hk : opKind C.P s.op = .effect) (hh : headIn ((nth b i).getD 0) hist = true) (h : aopR C.P (evE (maskE (opsTmps s.op) env)) (layIn ((nth b i).getD 0) laid al st) s.op = some (v, st')) (hlt : Nat.blt d nt = true)
    (k : WD C nt rd base b l (i + 1) ((d, v) :: env) st' re ((i, (nth b i).getD 0, st') :: hist) al (Nat.lor laid ((nth b i).getD 0)) K) : WD C nt rd base b (s :: l) i env st re hist al laid K :=
  WD.effAny (fun fr hf => by rw [hd]; exact hf.put hlt v) hg hk hh (fun o ho fr hf => Evt.const fun n => by
    show aopO C _ o.op fr _ = _
    rw [ho]
    exact aopR_ok (fun x v => evE_ok hf) _ h) k
theorem WD.eff0 {v : AV} (hd : s.dst = none) (hg : On env s) (hk : opKind C.P s.op = .effect) (hh : headIn ((nth b i).getD 0) hist = true) (h : aopR C.P (evE (maskE (opsTmps s.op) env)) (layIn ((nth b i).getD 0) laid al st) s.op = some (v, st'))
    (k : WD C nt rd base b l (i + 1) env st' re ((i, (nth b i).getD 0, st') :: hist) al (Nat.lor laid ((nth b i).getD 0)) K) : WD C nt rd base b (s :: l) i env st re hist al laid K :=
  WD.effAny (v := v) (fun fr hf => by rw [hd]; exact ⟨fr, rfl, hf⟩) hg hk hh (fun o ho fr hf => Evt.const fun n => by
    show aopO C _ o.op fr _ = _
    rw [ho]
    exact aopR_ok (fun x v => evE_ok hf) _ h) k
theorem WD.call {d : Tmp} {f : FuncId} {xs : List AV} {c : Call} (hd : s.dst = some d) (hg : On env s) (hop : s.op = .call c) (hcal : c.callee = .value (.func f)) (hargs : evsR (evE (maskE (opsTmps s.op) env)) c.args.toList = some xs) (hh : headIn ((nth b i).getD 0) hist = true)
    (hlt : Nat.blt d nt = true) (k : CallW C f xs (layIn ((nth b i).getD 0) laid al st) fun v st' => WD C nt rd base b l (i + 1) ((d, v) :: env) st' re ((i, (nth b i).getD 0, st') :: hist) al (Nat.lor laid ((nth b i).getD 0)) K) : WD C nt rd base b (s :: l) i env st re hist al laid K := by
  obtain ⟨v, st', h1, h2⟩ := k
  refine WD.effAny (fun fr hf => by rw [hd]; exact hf.put hlt v) hg (by rw [hop]; simp only [opKind, hcal]) hh (fun o ho fr hf => ?_) h2
  have e : ∀ n, aop C (aexec C n) fr (layIn ((nth b i).getD 0) laid al st) o = acall C (aexec C n) f xs (layIn ((nth b i).getD 0) laid al st) := by
    intro n
    show aopO C _ o.op fr _ = _
    rw [ho, hop]
    simp only [aopO, oCall, hcal, evsR_ok (fun x v => evE_ok hf) hargs, bnd_some, ev, callV, List.nil_append, List.append_nil]
  obtain ⟨N, hN⟩ := h1
  exact ⟨N, fun n hn => (e n).trans (hN n hn)⟩

/-- The states in which a read may be met. -/
noncomputable def need (i bi : Nat) : Hist → St → List St
  | [], S => [S]
  | (e, be, S') :: r, S => (bif anyIn bi ((e, be, S') :: r) then [] else [S]) ++ (bif be.testBit i then [] else need i bi r S')
theorem readFrom_of {ex : Exec} {op : Op} {fr : Fr} {v : AV} {i bi : Nat} : ∀ {h : Hist} {S : St}, (∀ T ∈ need i bi h S, stAt C ex op fr v T = true) → readFrom C ex op fr v i bi h S = true
  | [], S, h => h S (by simp [need])
  | (e, be, S') :: r, S, h => by
    simp only [readFrom, Bool.and_eq_true, Bool.or_eq_true]
    refine ⟨?_, ?_⟩
    · cases ha : anyIn bi ((e, be, S') :: r) with
      | true => exact .inl rfl
      | false => exact .inr (h S (by simp [need, ha]))
    · cases hb : be.testBit i with
      | true => exact .inl rfl
      | false => exact .inr (readFrom_of fun T hT => h T (by simp only [need, hb, cond_false]; exact List.mem_append_right _ hT))
/-- A read that is as it was. -/
def Still (C : Ctx) (e : RE) (S : St) : Prop := aopR C.P (evE e.env) S e.op = some (e.v, S)
theorem WK.draw (h : WD C nt rd st.next b l 0 env (resv l.length st) [] [] [] 0 fun env' st' re hist al laid => (hist = [] ∨ ∀ e ∈ re, sameV e.v e.v = true ∧ ∀ S ∈ need e.i ((nth b e.i).getD 0) hist.reverse (resv l.length st), Still C e S) ∧ after C nt rd ks Q .normal env' (layRest laid al st')) :
    WK C nt rd (.draw l b true) ks env st Q := by
  intro c hc fr hf
  have hc' : ∃ i ops, c = .region i ops true ∧ soL ops.toList ops.toList = some l ∧ b = bef ops.toList [] ∧ (tmpsOk ops.toList (bef ops.toList []) ops.toList 0 && backOk (bef ops.toList []) 0) = true := by
    cases c <;> simp only [SC.of, reduceCtorEq] at hc
    rename_i i ops d
    cases d with
    | false =>
      simp only at hc
      split at hc <;> cases hc
    | true =>
      simp only at hc
      split at hc
      · rename_i l' hl
        obtain ⟨rfl, rfl, h3⟩ := SC.draw.inj hc
        exact ⟨i, ops, rfl, hl, rfl, h3⟩
      · cases hc
  obtain ⟨id, ops, rfl, hl, rfl, hok⟩ := hc'
  have hlen : ∀ {r : List Oper} {l : List SO}, soL ops.toList r = some l → l.length = r.length := by
    intro r
    induction r with
    | nil =>
      intro l h
      simp only [soL, Option.some.injEq] at h
      subst h; rfl
    | cons o r ih =>
      intro l h
      rcases soL_some h with ⟨h', _⟩ | ⟨o', r', s', l', e, rfl, h1, h2⟩
      · cases h'
      · obtain ⟨rfl, rfl⟩ := List.cons.inj e
        rw [List.length_cons, List.length_cons, ih h2]
  obtain ⟨D', h1, env', re', h2, h3, h4, h5⟩ := h ops.toList ops.toList hl fr hf [] trivial
  refine ⟨.normal, D'.fr, layRest D'.laid D'.al D'.st, ?_, env', h2, h5⟩
  obtain ⟨N, hN⟩ := h1
  refine Evt.step ⟨N, fun n hn => ?_⟩
  have hrun : aopsD C (aexec C n) st.next (bef ops.toList []) ops.toList ops.toList 0 ⟨fr, resv ops.toList.length st, [], [], [], 0⟩ = some D' := by
    have := hN n hn
    rw [hlen hl] at this
    exact this
  have hdr : drawOk C (aexec C n) (bef ops.toList []) (resv ops.toList.length st) D' = true := by
    unfold drawOk
    split
    · rfl
    · rename_i hne
      have h4 := h4.resolve_left (by rw [hne]; simp)
      rw [hlen hl] at h4
      have : ∀ {rs : List (Nat × Op × Fr × AV)} {es : List RE}, ReL nt rd rs es → (∀ e ∈ es, e ∈ re') → readsOk C (aexec C n) (bef ops.toList []) D'.hist.reverse (resv ops.toList.length st) rs = true := by
        intro rs
        induction rs with
        | nil => intro _ _ _; rfl
        | cons r rs ih =>
          intro es hrl hsub
          cases es with
          | nil => exact hrl.elim
          | cons e es =>
            obtain ⟨i0, op0, fr0, v0⟩ := r
            obtain ⟨⟨k1, k2, k3, k4⟩, hrl⟩ := hrl
            simp only at k1 k2 k3 k4
            subst k1 k2 k3
            simp only [readsOk, Bool.and_eq_true]
            refine ⟨readFrom_of fun T hT => ?_, ih hrl fun e' he' => hsub e' (List.mem_cons_of_mem _ he')⟩
            obtain ⟨q1, q2⟩ := h4 e (hsub e List.mem_cons_self)
            have := aopR_ok (fun x v => evE_ok k4) (aexec C n) (q2 T hT)
            unfold stAt
            rw [this]
            exact q1
      exact this h3 fun _ h => h
  show stepCode C (aexec C n) (.region id ops true) fr st = _
  simp only [stepCode, cRegion, aregionD, hok, cond_true, cnd_true, hrun, bnd_some, drawEnd, hdr, fin]
end Go.AE

namespace Go.AE
open Go Go.RowKit

variable {C : Ctx} {nt : Nat} {rd : Option Nat} {env : Env} {st : St} {Q : Post3} {ks : List Kont}

/-- A round comes to an end at which K. -/
def YieldW (C : Ctx) (l : Nat) (xs : List AV) (st : St) (K : AV → St → Prop) : Prop := ∃ v st', Evt (fun n => around (aexec C n) l xs st) (v, st') ∧ K v st'
theorem YieldW.mono {l : Nat} {xs : List AV} {K K' : AV → St → Prop} (h : YieldW C l xs st K) (hk : ∀ v st', K v st' → K' v st') : YieldW C l xs st K' := by
  obtain ⟨v, st', h1, h2⟩ := h
  exact ⟨v, st', h1, hk v st' h2⟩
theorem WR.yield {s : SO} {l : List SO} {d : Tmp} {k : Nat} {xs : List AV} {c : Call} {x : Operand} (hd : s.dst = some d) (hg : s.g = none) (hop : s.op = .call c) (hcal : c.callee = .value x) (hx : evE env x = some (.func (.yield k) [] [])) (hargs : evsR (evE env) c.args.toList = some xs)
    (hlt : Nat.blt d nt = true) (h : YieldW C k xs st fun v st' => WR C nt rd l ks ((d, v) :: env) st' Q) : WR C nt rd (s :: l) ks env st Q := by
  obtain ⟨v, st', h1, h2⟩ := h
  refine WR.any hd hlt (.inl hg) (fun o ho fr hf => ?_) h2
  have e : ∀ n, aop C (aexec C n) fr st o = around (aexec C n) k xs st := by
    intro n
    show aopO C _ o.op fr st = _
    rw [ho, hop]
    simp only [aopO, oCall, hcal, evsR_ok (fun x v => evE_ok hf) hargs, bnd_some, evE_ok hf hx, callV]
  obtain ⟨N, hN⟩ := h1
  exact ⟨N, fun n hn => (e n).trans (hN n hn)⟩
/-- A call of a function value. -/
theorem WR.callV {s : SO} {l : List SO} {d : Tmp} {f : FuncId} {first captured xs : List AV} {c : Call} {x : Operand} (hd : s.dst = some d) (hg : s.g = none ∨ ∃ t w, s.g = some (t, w) ∧ lookE t env = some (.bool w)) (hop : s.op = .call c) (hcal : c.callee = .value x) (hx : evE env x = some (.func (.func f) first captured))
    (hargs : evsR (evE env) c.args.toList = some xs) (hlt : Nat.blt d nt = true) (h : CallW C f (first ++ (xs ++ captured)) st fun v st' => WR C nt rd l ks ((d, v) :: env) st' Q) : WR C nt rd (s :: l) ks env st Q := by
  obtain ⟨v, st', h1, h2⟩ := h
  refine WR.any hd hlt hg (fun o ho fr hf => ?_) h2
  have e : ∀ n, aop C (aexec C n) fr st o = acall C (aexec C n) f (first ++ (xs ++ captured)) st := by
    intro n
    show aopO C _ o.op fr st = _
    rw [ho, hop]
    simp only [aopO, oCall, hcal, evsR_ok (fun x v => evE_ok hf) hargs, bnd_some, evE_ok hf hx, AE.callV]
  obtain ⟨N, hN⟩ := h1
  exact ⟨N, fun n hn => (e n).trans (hN n hn)⟩

theorem setParams_is : ∀ {ps : List Tmp} {xs : List AV} {fr : Fr} {env : Env}, ps.length = xs.length → (ps.all fun p => Nat.blt p nt) = true → FrIs nt rd env fr → ∃ fr', setParams ps xs fr = some fr' ∧ FrIs nt rd ((ps.zip xs).reverse ++ env) fr'
  | [], [], fr, env, _, _, h => ⟨fr, rfl, h⟩
  | p :: ps, x :: xs, fr, env, hl, hp, h => by
    simp only [List.all_cons, Bool.and_eq_true] at hp
    obtain ⟨fr1, p1, p2⟩ := h.put hp.1 x
    obtain ⟨fr2, q1, q2⟩ := setParams_is (ps := ps) (xs := xs) (by simpa using hl) hp.2 p2
    refine ⟨fr2, by simp only [setParams, p1, bnd_some]; exact q1, ?_⟩
    simpa using q2
  | [], _ :: _, _, _, hl, _, _ => by simp at hl
  | _ :: _, [], _, _, hl, _, _ => by simp at hl
/-- What the end of a round comes to. -/
def roundV : Ex → AV × LoopState × Option Code
  | .normal => (.bool true, .ready, none)
  | .ret => (.bool false, .done, some .ret)
  | .exit i => (.bool false, .done, some (.exit i))
theorem YieldW.intro {l : Nat} {xs : List AV} {K : AV → St → Prop} {fr : Fr} {ps : List Tmp} {a b : Code} {sa sb : SC} {E : Env} (hl : st.heap.get l = some (.loop .ready none fr ps a b)) (hf : FrIs nt none E fr) (ha : SC.of a = sa) (hb : SC.of b = sb) (hlen : ps.length = xs.length) (hps : (ps.all fun p => Nat.blt p nt) = true)
    (h : W C nt (some l) sa ((ps.zip xs).reverse ++ E) st fun e env1 st1 => e = .normal ∧ st1.heap.get l = some (.loop .ready none fr ps a b) ∧ W C nt (some l) sb env1 (st1.setObj l (.loop .busy none fr ps a b)) fun e _ st2 =>
      st2.heap.get l = some (.loop .busy none fr ps a b) ∧ K (roundV e).1 (st2.setObj l (.loop (roundV e).2.1 (roundV e).2.2 fr ps a b))) : YieldW C l xs st K := by
  obtain ⟨fr0, p1, p2⟩ := setParams_is (rd := some l) (env := E) hlen hps (fr := ⟨fr.nt, fr.t, some l⟩) ⟨hf.nt, rfl, hf.val⟩
  obtain ⟨e1, fr1, st1, h1, env1, h2, rfl, h3, h4⟩ := h a ha fr0 p2
  obtain ⟨e2, fr2, st2, k1, env2, k2, k3, k4⟩ := h4 b hb fr1 h2
  refine ⟨(roundV e2).1, st2.setObj l (.loop (roundV e2).2.1 (roundV e2).2.2 fr ps a b), ?_, k4⟩
  obtain ⟨N, hN⟩ := h1
  obtain ⟨M, hM⟩ := k1
  refine ⟨max N M, fun n hn => ?_⟩
  have e1 : aexec C n a fr0 st = some (.normal, fr1, st1) := hN n (by omega)
  have e3 : aexec C n b fr1 (st1.setObj l (.loop .busy none fr ps a b)) = some (e2, fr2, st2) := hM n (by omega)
  show around (aexec C n) l xs st = _
  unfold around
  rw [hl]
  simp only [p1, bnd_some, e1, roundBody, h3, e3]
  cases e2 <;> simp only [roundEnd, setLoop, k3, bnd_some] <;> rfl

/-- A call into a function with a body. -/
def CallBW (C : Ctx) (f : FuncId) (xs : List AV) (st : St) (K : AV → St → Prop) : Prop := ∃ v st', Evt (fun n => acallB C.P (aexec C n) f xs st) (v, st') ∧ K v st'
theorem CallBW.mono {f : FuncId} {xs : List AV} {K K' : AV → St → Prop} (h : CallBW C f xs st K) (hk : ∀ v st', K v st' → K' v st') : CallBW C f xs st K' := by
  obtain ⟨v, st', h1, h2⟩ := h
  exact ⟨v, st', h1, hk v st' h2⟩
theorem CallBW.enter {f : FuncId} {fn : Func} {c : Code} {sc : SC} {xs : List AV} {K : AV → St → Prop} (hf : C.P.funcs[f]? = some fn) (hb : fn.body = some c) (hc : SC.of c = sc) (hle : Nat.ble xs.length fn.ntmps = true)
    (h : WK C fn.ntmps none sc [] (argsE xs 0) st fun e env st' => (∀ i, e ≠ .exit i) ∧ ∃ vs, resE C.P env st' fn.results.toList = some vs ∧ K (one vs) st') : CallBW C f xs st K := by
  have hfr : FrIs fn.ntmps none (argsE xs 0) ⟨fn.ntmps, args0 xs 0 .nil, none⟩ := by
    refine ⟨rfl, rfl, fun t v ht => ?_⟩
    obtain ⟨_, h2⟩ := argsE_look ht
    simp only [Fr.get]
    have hlt := (List.getElem?_eq_some_iff.1 h2).1
    rw [args0_get, if_pos ⟨Nat.zero_le _, by omega⟩, h2]
    rfl
  obtain ⟨e, fr', st', h1, env', h2, h3, vs, h4, h5⟩ := h c hc _ hfr
  refine ⟨one vs, st', ?_, h5⟩
  obtain ⟨N, hN⟩ := h1
  refine ⟨N, fun n hn => ?_⟩
  have hnf : nth C.P.funcs.toList f = some fn := by rw [nth_eq]; simpa using hf
  have hx : aexec C n c ⟨fn.ntmps, args0 xs 0 .nil, none⟩ st = some (e, fr', st') := hN n hn
  show acallB C.P (aexec C n) f xs st = _
  unfold acallB
  simp only [hnf, bnd_some, hb, AE.enter, hle, hx]
  show (left C.P fn.results.toList (e, fr', st')) = _
  cases e with
  | normal => simp only [left, resE_ok h2 h4, bnd_some]
  | ret => simp only [left, resE_ok h2 h4, bnd_some]
  | exit i => exact absurd rfl (h3 i)
/-- How a range over a function ends. -/
def rangeEnd : LoopState → Option Code → Option Ex
  | .ready, none => some .normal
  | .done, some .ret => some .ret
  | .done, some (.exit i) => some (.exit i)
  | _, _ => none
theorem WK.rangeFunc {g : Operand} {ps : List Tmp} {sa sb : SC} {f : FuncId} {first captured : List AV} (hg : evE env g = some (.func (.func f) first captured))
    (h : ∀ fr a b, FrIs nt none env fr → SC.of a = sa → SC.of b = sb → CallBW C f (first ++ (.func (.yield st.next) [] [] :: captured)) (st.push (.loop .ready none fr ps a b)) fun _ st2 =>
      ∃ s p e, st2.heap.get st.next = some (.loop s p fr ps a b) ∧ rangeEnd s p = some e ∧ after C nt none ks Q e env (st2.setObj st.next (.loop .exhausted p fr ps a b))) :
    WK C nt none (.rangeFunc g ps sa sb) ks env st Q := by
  intro c hc fr hf
  cases c <;> simp only [SC.of, reduceCtorEq] at hc
  case region => split at hc <;> (try split at hc) <;> cases hc
  rename_i g' ps' a b
  obtain ⟨rfl, rfl, ha, hb⟩ := SC.rangeFunc.inj hc
  obtain ⟨v, st2, ⟨N, hN⟩, s, p, e, h2, h3, h4⟩ := h fr a b hf ha hb
  refine ⟨e, fr, st2.setObj st.next (.loop .exhausted p fr ps'.toList a b), Evt.step ⟨N, fun n hn => ?_⟩, env, hf, h4⟩
  have hn' : acallB C.P (aexec C n) f (first ++ (.func (.yield st.next) [] [] :: captured)) (st.push (.loop .ready none fr ps'.toList a b)) = some (v, st2) := hN n hn
  show stepCode C (aexec C n) (.rangeFunc g' ps' a b) fr st = _
  simp only [stepCode, cRangeFunc, hf.rd, evE_ok hf hg, bnd_some, rangeF, hn', endLoopV, h2]
  unfold rangeEnd at h3
  split at h3 <;> first | (obtain rfl := Option.some.inj h3; rfl) | cases h3
end Go.AE

namespace Go.AE
open Go Go.RowKit

variable {P : Program} {ρ : Rho} {st : St}
/-- A variable of its own. -/
noncomputable def boxO (e : TypeId) (v : AV) : AObj := .cells ⟨e, v.cells.length, T.nil.set 0 v.cells, 1, 1, .rw⟩
theorem r_box {e : TypeId} {x : Operand} {v : AV} (hx : ρ x = some v) (hp : (v.cells.all AV.plain && Nat.ble 1 v.cells.length) = true) : aopR P ρ st (.box e x) = some (.ptr st.next 0, st.push (boxO e v)) := by
  simp only [aopR, hx, bnd_some, oBox, hp, cnd_true, lay, boxO]
theorem r_alloc {e : TypeId} {z : AV} (hz : zeroT P e = some z) (hp : (z.cells.all AV.plain && Nat.ble 1 z.cells.length) = true) : aopR P ρ st (.alloc e) = some (.ptr st.next 0, st.push (boxO e z)) := by
  simp only [aopR, oAlloc, hz, bnd_some, oBox, hp, cnd_true, lay, boxO]
/-- Where a field stands. -/
noncomputable def fieldOff (P : Program) (s : TypeId) (f : Nat) : Option Nat := match und P s with
  | some (.struct fs) => (nth fs.toList f).bnd fun f => (sizeT P f.type).bnd fun n => cnd (Nat.ble 1 n) (some f.offset) none
  | _ => none
theorem r_fa {s : TypeId} {f k b off : Nat} {x : Operand} (h : fieldOff P s f = some k) (hx : ρ x = some (.ptr b off)) : aopR P ρ st (.fieldAddr s x f) = some (.ptr b (Nat.add off k), st) := by
  unfold fieldOff at h
  simp only [aopR, hx, bnd_some, oFieldAddr]
  split at h
  · rename_i fs hs
    simp only [hs]
    cases h1 : nth fs.toList f with
    | none => rw [h1] at h; cases h
    | some g =>
      rw [h1, bnd_some] at h
      cases h2 : sizeT P g.type with
      | none => rw [h2] at h; cases h
      | some n =>
        rw [h2, bnd_some, cnd_eq] at h
        simp only [bnd_some, h2, h.1, cnd_true]
        rw [Option.some.inj h.2]
  · cases h
theorem box_cells {b : Nat} {e : TypeId} {v : AV} (hb : st.heap.get b = some (boxO e v)) : cellsOf st b = some ⟨e, v.cells.length, T.nil.set 0 v.cells, 1, 1, .rw⟩ := by
  unfold cellsOf
  rw [hb]
  rfl
theorem box_load1 {b k : Nat} {e : TypeId} {v a : AV} (hb : st.heap.get b = some (boxO e v)) (hk : v.cells[k]? = some a) : load1 st b k = some a := by
  have hlt := (List.getElem?_eq_some_iff.1 hk).1
  have e1 : Nat.div k v.cells.length = 0 := Nat.div_eq_of_lt hlt
  have e2 : Nat.mod k v.cells.length = k := Nat.mod_eq_of_lt hlt
  unfold load1
  rw [box_cells hb, bnd_some]
  simp only [e1, e2]
  show (cnd (Nat.blt 0 1) ((T.nil.set 0 v.cells).get 0) none).bnd _ = _
  rw [T.get_set_same]
  show nth v.cells k = _
  rw [nth_eq, hk]
theorem r_ld {b k : Nat} {e t : TypeId} {x : Operand} {v a : AV} (ht : isAggT P t = some false) (hx : ρ x = some (.ptr b k)) (hb : st.heap.get b = some (boxO e v)) (hk : v.cells[k]? = some a) : aopR P ρ st (.load t x) = some (a, st) :=
  r_load1 ht hx (box_load1 hb hk)
theorem takeN_of {α : Type} : ∀ {n : Nat} {l : List α}, n ≤ l.length → takeN n l = some (l.take n)
  | 0, _, _ => rfl
  | n + 1, [], h => by simp at h
  | n + 1, x :: l, h => by
    rw [takeN, takeN_of (by simpa using h)]
    rfl
theorem r_ldA {b k n : Nat} {e t : TypeId} {x : Operand} {v : AV} {l : List AV} (ht : isAggT P t = some true) (hn : sizeT P t = some (n + 1)) (hx : ρ x = some (.ptr b k)) (hb : st.heap.get b = some (boxO e v)) (hk : k + (n + 1) ≤ v.cells.length) (hl : (v.cells.drop k).take (n + 1) = l) : aopR P ρ st (.load t x) = some (.agg l, st) := by
  have e1 : Nat.div k v.cells.length = 0 := Nat.div_eq_of_lt (by omega)
  have e2 : Nat.mod k v.cells.length = k := Nat.mod_eq_of_lt (by omega)
  have h3 : Nat.ble (Nat.add k (n + 1)) v.cells.length = true := ble_true.2 hk
  simp only [aopR, hx, bnd_some, oLoad, loadVar, ht, hn, cond_true]
  unfold loadCells
  rw [box_cells hb, bnd_some]
  simp only [Blk.load, e1, e2, h3, cond_true]
  show (((cnd (Nat.blt 0 1) ((T.nil.set 0 v.cells).get 0) none).bnd fun l => takeN (n + 1) (l.drop k)).bnd _).bnd _ = _
  rw [T.get_set_same]
  show ((takeN (n + 1) (v.cells.drop k)).bnd _).bnd _ = _
  rw [takeN_of (by rw [List.length_drop]; omega), hl]
  rfl
theorem over_all : ∀ {l vs : List AV}, l.length = vs.length → over l vs = some vs
  | [], [], _ => rfl
  | _ :: _, [], h => by simp at h
  | [], _ :: _, h => by simp at h
  | a :: l, v :: vs, h => by
    rw [over, over_all (l := l) (vs := vs) (by simpa using h), bnd_some]
theorem overAt_all {l vs : List AV} (h : l.length = vs.length) : overAt l 0 vs = some vs := by
  have : overAt l 0 vs = over l vs := by cases l <;> rfl
  rw [this, over_all h]
theorem r_st {b : Nat} {e t : TypeId} {x y : Operand} {v u : AV} (hn : sizeT P t = some u.cells.length) (hx : ρ x = some (.ptr b 0)) (hy : ρ y = some u) (hb : st.heap.get b = some (boxO e v)) (hl : v.cells.length = u.cells.length) (hp : (u.cells.all AV.plain && Nat.ble 1 u.cells.length) = true) : aopR P ρ st (.store t x y) = some (.tup [], st.setObj b (boxO e u)) := by
  simp only [Bool.and_eq_true, ble_true] at hp
  have h0 : Nat.beq u.cells.length u.cells.length = true := beq_true.2 rfl
  have hstore : storeCells st b 0 u.cells = some (st.setObj b (boxO e u)) := by
    unfold storeCells
    split
    · rename_i hc
      rw [hc] at hp
      simp at hp
    · rename_i hc
      rw [hp.1, cnd_true, box_cells hb, bnd_some]
      have e1 : Nat.div 0 v.cells.length = 0 := Nat.zero_div _
      have e2 : Nat.mod 0 v.cells.length = 0 := Nat.zero_mod _
      have h3 : Nat.ble (Nat.add 0 u.cells.length) v.cells.length = true := ble_true.2 (by show 0 + _ ≤ _; omega)
      simp only [storeIn, Blk.store, e1, e2, h3, cond_true]
      show (((cnd (Nat.blt 0 1) ((T.nil.set 0 v.cells).get 0) none).bnd fun l => (overAt l 0 u.cells).bnd _).bnd _) = _
      rw [T.get_set_same]
      show (((overAt v.cells 0 u.cells).bnd _).bnd _) = _
      rw [overAt_all hl]
      simp only [bnd_some, Blk.setT, boxO, hl]
      rfl
  simp only [aopR, hx, hy, bnd_some, oStore, storeVar, hn, h0, cnd_true, hstore]
theorem push_self (st : St) (o : AObj) : (st.push o).heap.get st.next = some o := by rw [push_get, if_pos rfl]
theorem push_lt (st : St) (o : AObj) {k : Nat} (h : k < st.next) : (st.push o).heap.get k = st.heap.get k := by rw [push_get, if_neg (by omega)]
variable {C : Ctx} {nt : Nat} {rd : Option Nat} {env : Env} {Q : Post3} {ks : List Kont}
theorem after.seq {b : SC} (h : WK C nt rd b ks env st Q) : after C nt rd (.seq b :: ks) Q .normal env st := h
theorem after.nil {e : Ex} (h : Q e env st) : after C nt rd [] Q e env st := h
theorem done {P : Program} {l : List ResultVar} {K : AV → St → Prop} {e : Ex} (he : ∀ i, e ≠ .exit i) (vs : List AV) (h : resE P env st l = some vs) (hk : K (one vs) st) : e ≠ .exit 0 ∧ (∀ i, e ≠ .exit i) ∧ ∃ vs, resE P env st l = some vs ∧ K (one vs) st := ⟨he 0, he, vs, h, hk⟩
theorem ret_ne (i : Nat) : Ex.ret ≠ .exit i := fun h => by cases h
theorem normal_ne (i : Nat) : Ex.normal ≠ .exit i := fun h => by cases h
theorem r_min2 {x y : Operand} {t u : TypeId} {k : IntKind} {a b : Int} (hx : ρ x = some (.int k a)) (hy : ρ y = some (.int k b)) : aopR P ρ st (.call ⟨.builtin .min, #[x, y], #[t, u]⟩) = some (.int k (min a b), st) := by
  have h : (if b < a then b else a) = min a b := by
    split <;> omega
  simp only [aopR, evsR, hx, hy, bnd_some, builtinOp, maxL, decide_true, cnd_true, cnd_false, h]
theorem r_max2 {x y : Operand} {t u : TypeId} {k : IntKind} {a b : Int} (hx : ρ x = some (.int k a)) (hy : ρ y = some (.int k b)) : aopR P ρ st (.call ⟨.builtin .max, #[x, y], #[t, u]⟩) = some (.int k (max a b), st) := by
  have h : (if b > a then b else a) = max a b := by
    split <;> omega
  simp only [aopR, evsR, hx, hy, bnd_some, builtinOp, maxL, decide_true, cnd_true, h]
end Go.AE

namespace Go.AE
open Go Go.RowKit

variable {P : Program} {ρ : Rho} {st : St}
/-- A row of these elements, each of z cells. -/
def Els (st : St) (x : AV) (z : Nat) (l : List (List AV)) : Prop := (x = .nils ∧ l = []) ∨ ∃ m c B, x = .slc m 0 l.length c ∧ st.heap.get m = some (.cells B) ∧ cellsOf st m = some B ∧ B.z = z ∧ l.length ≤ B.hi ∧ (∀ i, i < l.length → B.t.get i = l[i]?) ∧ m < st.next ∧ ∀ f, B.k = .opn f → f < st.next
theorem Els.ext {st' : St} {x : AV} {z : Nat} {l : List (List AV)} (h : Els st x z l) (k : Ext st st') : Els st' x z l := by
  rcases h with h | ⟨m, c, B, h1, h2, h3, h4, h5, h6, h7, h8⟩
  · exact .inl h
  · have hm := k.heap m h7
    refine .inr ⟨m, c, B, h1, by rw [hm]; exact h2, ?_, h4, h5, h6, Nat.lt_of_lt_of_le h7 k.nx, fun f hf => Nat.lt_of_lt_of_le (h8 f hf) k.nx⟩
    unfold cellsOf at h3 ⊢
    rw [h2] at h3
    rw [hm, h2]
    show seenBlk st' m B = _
    have h3 : seenBlk st m B = some B := h3
    unfold seenBlk at h3 ⊢
    cases hk : B.k with
    | opn f =>
      rw [hk] at h3
      simp only at h3 ⊢
      rw [k.fams f (h8 f hk)]
      exact h3
    | ro => rfl
    | rw => rfl
theorem IsRow.els {x : AV} {f e z : Nat} {l : List (List AV)} (h : IsRow st x f e z l) : Els st x z l := by
  rcases h with h | ⟨m, h1, h2, h3, h4⟩
  · exact .inl h
  · obtain ⟨t, room, k1, k2⟩ := h4.cells
    obtain ⟨t', room', k3, k4⟩ := h4.blk
    obtain ⟨e1, e2⟩ := cellsOf_eq.1 k1
    exact .inr ⟨m, none, _, h1, e1, k1, rfl, Nat.le_refl _, k2, h2, fun g hg => by cases hg; exact h3⟩
theorem r_lenE {t : TypeId} {x : Operand} {v : AV} {z : Nat} {l : List (List AV)} (ht : ∃ e, und P t = some (.slice e)) (hx : ρ x = some v) (h : Els st v z l) : aopR P ρ st (.call ⟨.builtin .len, #[x], #[t]⟩) = some (.int .i64 (l.length : Int), st) := by
  obtain ⟨e, ht⟩ := ht
  rcases h with ⟨rfl, rfl⟩ | ⟨m, c, B, rfl, _⟩
  · simp only [aopR, evsR, hx, bnd_some, builtinOp, lenB, ht]
    rfl
  · simp only [aopR, evsR, hx, bnd_some, builtinOp, lenB, ht]
theorem r_iaA {t e : TypeId} {k : IntKind} {x y : Operand} {b off len z n : Nat} (ht : und P t = some (.array len e)) (hs : sizeT P e = some z) (hx : ρ x = some (.ptr b off)) (hy : ρ y = some (.int k (n : Int))) (hn : n < len) : aopR P ρ st (.indexAddr t x y) = some (.ptr b (Nat.add off (Nat.mul n z)), st) := by
  have h : idxb (n : Int) len = some n := idxb_eq.2 ⟨⟨by omega, by omega⟩, by omega⟩
  simp only [aopR, hx, hy, bnd_some, oIndexAddr, ht, h, hs]
/-- An element's place, and what is read there. -/
theorem Els.at {t e : TypeId} {v : AV} {z n : Nat} {l : List (List AV)} (h : Els st v z l) (ht : und P t = some (.slice e)) (hs : sizeT P e = some z) (hn : n < l.length) :
    ∃ m off, (∀ {ρ : Rho} {k : IntKind} {x y : Operand}, ρ x = some v → ρ y = some (.int k (n : Int)) → aopR P ρ st (.indexAddr t x y) = some (.ptr m off, st)) ∧ ∀ a, l[n]? = some a → a.length = z →
      (∀ (ρ' : Rho) (t' : TypeId) (x' : Operand), ρ' x' = some (.ptr m off) → (isAggT P t' = some false → ∀ b, a = [b] → aopR P ρ' st (.load t' x') = some (b, st)) ∧ (isAggT P t' = some true → sizeT P t' = some z → 1 ≤ z → aopR P ρ' st (.load t' x') = some (.agg a, st))) := by
  rcases h with ⟨_, rfl⟩ | ⟨m, c, B, rfl, h2, h3, h4, h5, h6, h7, h8⟩
  · simp at hn
  refine ⟨m, Nat.add 0 (Nat.mul n z), fun hx hy => r_idx ht hs hx hy hn, fun a ha hal ρ' t' x' hx' => ⟨fun hagg b hb => ?_, fun hagg hsz hz => ?_⟩⟩
  · subst hb
    obtain rfl : 1 = z := hal
    have hel : B.el n = some [b] := by
      unfold Blk.el
      rw [blt_true.2 (by omega), h6 n hn, ha]; rfl
    refine r_load1 hagg hx' ?_
    unfold load1
    rw [h3, bnd_some, h4]
    have e1 : Nat.div (Nat.add 0 (Nat.mul n 1)) 1 = n := by
      show (0 + n * 1) / 1 = n
      omega
    have e2 : Nat.mod (Nat.add 0 (Nat.mul n 1)) 1 = 0 := by
      show (0 + n * 1) % 1 = 0
      omega
    rw [e1, e2, hel]
    rfl
  · have hel : B.el n = some a := by
      unfold Blk.el
      rw [blt_true.2 (by omega), h6 n hn, ha]; rfl
    have e1 : Nat.div (Nat.add 0 (Nat.mul n z)) z = n := by
      show (0 + n * z) / z = n
      rw [Nat.zero_add, Nat.mul_div_cancel _ (by omega)]
    have e2 : Nat.mod (Nat.add 0 (Nat.mul n z)) z = 0 := by
      show (0 + n * z) % z = 0
      rw [Nat.zero_add, Nat.mul_mod_left]
    obtain ⟨z', rfl⟩ : ∃ z', z = z' + 1 := ⟨z - 1, by omega⟩
    have h9 : Nat.ble (Nat.add 0 (z' + 1)) (z' + 1) = true := ble_true.2 (by show 0 + (z' + 1) ≤ _; omega)
    simp only [aopR, hx', bnd_some, oLoad, loadVar, hagg, hsz, cond_true]
    unfold loadCells
    rw [h3, bnd_some]
    simp only [Blk.load, h4, e1, e2, h9, cond_true, hel, bnd_some, List.drop_zero]
    rw [takeN_of (by omega)]
    simp only [bnd_some, pairS]
    rw [List.take_of_length_le (by omega)]
end Go.AE

namespace Go.AE
open Go Go.RowKit

variable {C : Ctx} {nt : Nat} {rd : Option Nat} {env : Env} {st : St} {Q : Post3} {ks : List Kont}
theorem WR.app1 {st0 : St} {t e : TypeId} {x y : Operand} {d1 d2 : Tmp} {xv v zv : AV} {f bytes : Nat} {L : List (List AV)} {l : List SO} (ht : und C.P t = some (.slice e)) (hs : sizeT C.P e = some 1) (hby : bytesT C.P e = some bytes) (hb1 : Nat.ble 1 bytes = true) (hb2 : Nat.ble bytes 65536 = true) (hz : zeroT C.P e = some zv) (hzp : zv.plain = true)
    (hx : evE env x = some v) (hv : v.plain = true) (hd1 : Nat.blt d1 nt = true) (hd2 : Nat.blt d2 nt = true) (hy : evE ((d1, .slc st.next 0 1 (some 1)) :: env) y = some xv) (hrow : IsRow st xv f e 1 L) (hext : Ext st0 st) (hf : xv = .nils ∨ st0.next ≤ f) (hl : L.length ≤ 1000000)
    (k : ∀ x' st' f', IsRow st' x' f' e 1 (L ++ [[v]]) → Ext st0 st' → st0.next ≤ f' → (∀ k, k < st.next → st'.heap.get k = st.heap.get k) → (∀ k, k ≠ f → k < st.next → st'.fams.get k = st.fams.get k) → st.next ≤ st'.next → WR C nt rd l ks ((d2, x') :: (d1, .slc st.next 0 1 (some 1)) :: env) st' Q) :
    WR C nt rd (⟨.buildSlice t 1 #[(0, x)], some d1, none⟩ :: ⟨.call ⟨.builtin .append, #[y, .tmp d1], #[t, t]⟩, some d2, none⟩ :: l) ks env st Q := by
  refine WR.op rfl rfl (r_lit (v := v) ht hs hz hzp hx hv) hd1 ?_
  have hl2 := stLit_load st e v hv
  have hnx : (stLit st e v).next = st.next + 1 := push_next _ _
  obtain ⟨x', st', f', h1, h2, e3, e4, e5, e6, e7⟩ := IsRow.append (st0 := st0) (n := 1) (bytes := bytes) (new := [v]) (hrow.ext ((Ext.refl st).lit e v)) (hext.lit _ _) hf (Nat.le_refl 1) (Nat.le_refl 1) (chunks_one [v]) (by simp [hv]) hb2 (by omega)
  refine WR.op rfl rfl ((r_append (xv := xv) (b := st.next) ht hs hby hb1 hz hzp hy (by simp only [evE, lookE_cons, if_pos]) hl2).trans h1) hd2 ?_
  refine k x' st' f' h2 e3 e4 (fun k hk => ?_) (fun k hkf hk => ?_) (by omega)
  · rw [e5 k (by omega)]
    unfold stLit
    rw [push_get, if_neg (by omega)]
  · rw [e6 k hkf (by omega)]
    unfold stLit
    rw [push_fams]
end Go.AE

namespace Go.AE
open Go Go.RowKit

variable {P : Program} {ρ : Rho} {st : St}
theorem overAt_one {u : AV} : ∀ {l : List AV} {k : Nat}, k < l.length → overAt l k [u] = some (l.set k u)
  | [], _, h => by simp at h
  | _ :: l, 0, _ => by cases l <;> rfl
  | a :: l, k + 1, h => by
    rw [overAt, overAt_one (by simpa using h)]
    rfl
theorem r_stF {b k : Nat} {e t : TypeId} {x y : Operand} {cs : List AV} {u : AV} (hn : sizeT P t = some 1) (hx : ρ x = some (.ptr b k)) (hy : ρ y = some u) (hb : st.heap.get b = some (boxO e (.agg cs))) (hk : k < cs.length) (hp : u.plain = true) : aopR P ρ st (.store t x y) = some (.tup [], st.setObj b (boxO e (.agg (cs.set k u)))) := by
  have hc : u.cells = [u] := by cases u <;> first | rfl | cases hp
  have h0 : Nat.beq u.cells.length 1 = true := by rw [hc]; rfl
  have e1 : Nat.div k cs.length = 0 := Nat.div_eq_of_lt hk
  have e2 : Nat.mod k cs.length = k := Nat.mod_eq_of_lt hk
  have h3 : Nat.ble (Nat.add k 1) cs.length = true := ble_true.2 hk
  have hall : ([u].all AV.plain) = true := by simp [hp]
  have hstore : storeCells st b k [u] = some (st.setObj b (boxO e (.agg (cs.set k u)))) := by
    show cnd ([u].all AV.plain) ((cellsOf st b).bnd (storeIn st b k [u])) none = _
    rw [hall, cnd_true, box_cells hb, bnd_some]
    have hl1 : [u].length = 1 := rfl
    simp only [storeIn, Blk.store, AV.cells, e1, e2, hl1, h3, cond_true]
    show (((cnd (Nat.blt 0 1) ((T.nil.set 0 cs).get 0) none).bnd fun l => (overAt l k [u]).bnd _).bnd _) = _
    rw [T.get_set_same]
    show (((overAt cs k [u]).bnd _).bnd _) = _
    rw [overAt_one hk]
    simp only [bnd_some, Blk.setT, boxO, AV.cells, List.length_set]
    rfl
  simp only [aopR, hx, hy, bnd_some, oStore, storeVar, hn, h0, cnd_true]
  rw [hc, hstore, bnd_some]
theorem cellsOfBytes_plain (s : List UInt8) : (cellsOfBytes s).all AV.plain = true := by
  induction s with
  | nil => rfl
  | cons c r ih =>
    show (AV.plain (.int .u8 (.ofNat c.toNat)) && (cellsOfBytes r).all AV.plain) = true
    rw [ih]; rfl
theorem byteEls_append (s r : List UInt8) : byteEls s ++ byteEls r = byteEls (s ++ r) := by
  unfold byteEls cellsOfBytes
  rw [List.map_append, List.map_append]
/-- 'append' of a text's bytes. -/
theorem r_appStr {t a e : TypeId} {x y : Operand} {xv : AV} {s : List UInt8} (ht : und P t = some (.slice e)) (ha : und P a = some .string) (hs : sizeT P e = some 1) (hby : bytesT P e = some 1) (hz : zeroT P e = some (.int .u8 0)) (hx : ρ x = some xv) (hy : ρ y = some (.str s)) :
    aopR P ρ st (.call ⟨.builtin .append, #[x, y], #[t, a]⟩) = appendTo st e 1 1 s.length xv (cellsOfBytes s) := by
  have hg : (Nat.ble 1 1 && Nat.ble 1 1 && notInt .string && Nat.beq (AV.int .u8 0).cells.length 1) = true := rfl
  have hf : firstCells st 1 s.length (.str s) = some (cellsOfBytes s) := by
    show (takeN s.length s).bnd _ = _
    rw [takeN_of (Nat.le_refl _), List.take_length, bnd_some]
  simp only [aopR, evsR, hx, hy, bnd_some, builtinOp, AE.append, ht, ha, hs, hby, lenOf, hz, hg, cnd_true, hf]
theorem appStr_row {st0 : St} {x : AV} {f e : Nat} {l s : List UInt8} (h : IsRow st x f e 1 (byteEls l)) (hx : Ext st0 st) (hf : x = .nils ∨ st0.next ≤ f) (hs : s ≠ []) (hl : l.length + s.length ≤ 1000000) :
    ∃ x' st' f', appendTo st e 1 1 s.length x (cellsOfBytes s) = some (x', st') ∧ IsRow st' x' f' e 1 (byteEls (l ++ s)) ∧ Ext st0 st' ∧ st0.next ≤ f' ∧ (∀ k, k < st.next → st'.heap.get k = st.heap.get k) ∧ (∀ k, k ≠ f → k < st.next → st'.fams.get k = st.fams.get k) ∧ st.next ≤ st'.next ∧ ∃ F', st'.fams.get f' = some F' ∧ (F'.mark = 0 ∨ ∃ F, x ≠ .nils ∧ st.fams.get f = some F ∧ F'.mark = F.mark) := by
  have hn : 1 ≤ s.length := by
    cases s with
    | nil => exact absurd rfl hs
    | cons c r => simp
  have hc : chunks 1 s.length (cellsOfBytes s) = some (byteEls s) := by
    have hlen : s.length = (cellsOfBytes s).length := by simp [cellsOfBytes]
    rw [hlen]
    exact chunks_one _
  obtain ⟨x', st', f', h1, h2, e3, e4, e5, e6, e7, e8, _⟩ := IsRow.appendM (n := s.length) (bytes := 1) h hx hf (Nat.le_refl 1) hn hc (cellsOfBytes_plain s) rfl (by rw [byteEls_len]; omega)
  rw [byteEls_append] at h2
  exact ⟨x', st', f', h1, h2, e3, e4, e5, e6, e7, e8⟩
/-- A call of a function that has no body. -/
theorem CallW.extern {C : Ctx} {f : FuncId} {fn : Func} {xs : List AV} {K : AV → St → Prop} {v : AV} {st' : St} (hs : C.sum f xs st = none) (hf : C.P.funcs[f]? = some fn) (hb : fn.body = none) (h : AE.extern C.P fn (C.ext f) xs st = some (v, st')) (hk : K v st') : CallW C f xs st K := by
  refine ⟨v, st', Evt.const fun n => ?_, hk⟩
  have hnf : nth C.P.funcs.toList f = some fn := by rw [nth_eq]; simpa using hf
  show acall C (aexec C n) f xs st = _
  unfold acall
  rw [hs]
  simp only [hnf, bnd_some, callF, hb]
  exact h
theorem set_next (st : St) (b : Nat) (o : AObj) : (st.setObj b o).next = st.next := by cases st; rfl
theorem set_fams (st : St) (b : Nat) (o : AObj) : (st.setObj b o).fams = st.fams := by cases st; rfl
theorem IsRow.setNe {x : AV} {f e z b : Nat} {l : List (List AV)} {o : AObj} (h : IsRow st x f e z l) (hb : ∀ m n c, x = .slc m n l.length c → m ≠ b) : IsRow (st.setObj b o) x f e z l := by
  rcases h with h | ⟨m, h1, h2, h3, h4⟩
  · exact .inl h
  · refine .inr ⟨m, h1, by rw [set_next]; exact h2, by rw [set_next]; exact h3, ?_⟩
    obtain ⟨t, room, k1, k2⟩ := h4.blk
    obtain ⟨F, k3, k4⟩ := h4.fam
    exact ⟨⟨t, room, by rw [set_get, if_neg (hb _ _ _ h1)]; exact k1, k2⟩, ⟨F, by rw [set_fams]; exact k3, k4⟩⟩
theorem IsRow.blk {x : AV} {f e z m n k : Nat} {c : Option Nat} {l : List (List AV)} (h : IsRow st x f e z l) (hx : x = .slc m n k c) : ∃ B, st.heap.get m = some (.cells B) ∧ B.k = .opn f := by
  rcases h with ⟨rfl, _⟩ | ⟨m', rfl, _, _, h4⟩
  · cases hx
  · cases hx
    obtain ⟨t, room, k1, _⟩ := h4.blk
    exact ⟨_, k1, rfl⟩
/-- The place of a row's first element. -/
theorem r_sd {t : TypeId} {x : Operand} {m f e z : Nat} {l : List (List AV)} (hx : ρ x = some (.slc m 0 l.length none)) (hr : RowAt st m f e z l) (hl : l ≠ []) : aopR P ρ st (.call ⟨.builtin .unsafeSliceData, #[x], #[t]⟩) = some (.ptr m 0, st) := by
  obtain ⟨tt, room, h1, _⟩ := hr.cells
  have hlen : 1 ≤ l.length := by
    cases l with
    | nil => exact absurd rfl hl
    | cons a r => simp
  have h2 : (isOpn (.opn f) && Nat.ble (Nat.add 0 z) (Nat.mul (max room l.length) z)) = true := by
    show (true && _) = true
    rw [Bool.true_and, ble_true]
    show 0 + z ≤ max room l.length * z
    have : 1 * z ≤ max room l.length * z := Nat.mul_le_mul_right z (by omega)
    omega
  simp only [aopR, evsR, hx, bnd_some, builtinOp, sliceData, h1, h2, cnd_true]
/-- The text of a row of bytes; the row is as it is from now on. -/
theorem r_us {pt t u e : TypeId} {x y : Operand} {m f : Nat} {s : List UInt8} {F : Fam} (hp : und P pt = some (.pointer u)) (hc : (Nat.beq (P.underlyingId e) (P.underlyingId u) && Nat.beq (P.cellsOf e) 1) = true) (hd : Nat.ble 2 P.depth = true) (hx : ρ x = some (.ptr m 0)) (hy : ρ y = some (.int .i64 (s.length : Int))) (hr : RowAt st m f e 1 (byteEls s)) (hs : s ≠ []) (hl : s.length ≤ 1073741824) (hF : st.fams.get f = some F) (hm : F.mark < 2) :
    aopR P ρ st (.call ⟨.builtin .unsafeString, #[x, y], #[pt, t]⟩) = some (.str s, st.setFam f F.marked) := by
  obtain ⟨tt, room, h1, _⟩ := hr.cells
  have hload := hr.loadAll (fun a ha => by
    obtain ⟨c, _, rfl⟩ := List.mem_map.1 ha
    rfl)
  rw [byteEls_len, byteEls_flat] at hload
  unfold loadCells at hload
  rw [h1, bnd_some] at hload
  have hb : Nat.blt F.mark 2 = true := blt_true.2 hm
  obtain ⟨n, hn⟩ : ∃ n, s.length = n + 1 := ⟨s.length - 1, by
    cases s with
    | nil => exact absurd rfl hs
    | cons c r => simp⟩
  have hg : (Nat.beq (P.underlyingId e) (P.underlyingId u) && Nat.beq (P.cellsOf e) 1 && Nat.beq 1 1 && Nat.ble s.length 1073741824 && Nat.ble 2 P.depth) = true := by
    rw [hc, hd, ble_true.2 hl]; rfl
  have hus : unsafeBytes P st pt m 0 s.length = some (.str s, st.setFam f F.marked) := by
    simp only [unsafeBytes, hp, h1, bnd_some, hg, cond_true, hload, bytesOf_cells, hF, hb, cnd_true]
  simp only [aopR, evsR, hx, hy, bnd_some, builtinOp]
  rw [hn] at hus ⊢
  exact hus
theorem r_us0 {pt t : TypeId} {x y : Operand} (hx : ρ x = some .nilp) (hy : ρ y = some (.int .i64 0)) : aopR P ρ st (.call ⟨.builtin .unsafeString, #[x, y], #[pt, t]⟩) = some (.str [], st) := by
  simp only [aopR, evsR, hx, hy, bnd_some, builtinOp]
  rfl
theorem Ext.fam {st0 st : St} (h : Ext st0 st) {f : Nat} (hf : st0.next ≤ f) (F : Fam) : Ext st0 (st.setFam f F) := by
  obtain ⟨hp, fm, nx⟩ := st
  refine ⟨h.nx, h.heap, fun k hk => ?_, h.nf, h.bf⟩
  show (T.set fm f F).get k = _
  rw [T.get_set_ne _ _ (by omega)]
  exact h.fams k hk
theorem Ext.resv {st0 st : St} (h : Ext st0 st) (n : Nat) : Ext st0 (AE.resv n st) := by
  obtain ⟨hp, fm, nx⟩ := st
  exact ⟨Nat.le_trans h.nx (Nat.le_add_right _ _), h.heap, h.fams, h.nf, fun c o f hc hf => (h.bf c o f hc hf).imp id fun q => Nat.lt_of_lt_of_le q (Nat.le_add_right _ _)⟩
theorem same_int (k : IntKind) (n : Int) : sameV (.int k n) (.int k n) = true := by
  have hi : ieqb n n = true := by rw [ieqb_eq]; simp
  have hk : kindEq k k = true := by cases k <;> rfl
  simp [sameV, sameA, same1, hi, hk]
theorem same_str (s : List UInt8) : sameV (.str s) (.str s) = true := by
  simp [sameV, sameA, same1, eqL_self]
theorem same_ptr (b k : Nat) : sameV (.ptr b k) (.ptr b k) = true := by
  simp [sameV, sameA, same1]
theorem same_slc (b k n : Nat) (c : Option Nat) : sameV (.slc b k n c) (.slc b k n c) = true := by
  cases c <;> simp [sameV, sameA, same1, optEq]
/-- A read ahead of the one effect. -/
theorem mem_need_one {T S S' : St} {i bi e be : Nat} (h : T ∈ need i bi [(e, be, S')] S) (h1 : bi.testBit e = false) (h2 : be.testBit i = true) : T = S := by
  simp only [need, anyIn, h1, h2, Bool.or_self, cond_false, cond_true, List.append_nil, List.mem_singleton] at h
  exact h
end Go.AE

namespace Go.AE
open Go Go.RowKit

variable {C : Ctx} {nt : Nat} {rd : Option Nat} {env : Env} {st : St} {Q : Post3} {ks : List Kont}
theorem chunks_whole {α : Type} {cs : List α} {z : Nat} (h : cs.length = z) : chunks z 1 cs = some [cs] := by
  subst h
  show (takeN cs.length cs).bnd _ = _
  rw [takeN_of (Nat.le_refl _), List.take_length, bnd_some, List.drop_length]
  rfl
theorem WR.appA {st0 : St} {t e : TypeId} {x y : Operand} {d1 d2 : Tmp} {xv v zv : AV} {f z bytes : Nat} {L : List (List AV)} {l : List SO} (ht : und C.P t = some (.slice e)) (hs : sizeT C.P e = some z) (hz1 : 1 ≤ z) (hz2 : z ≤ 16777216) (hby : bytesT C.P e = some bytes) (hb1 : Nat.ble 1 bytes = true) (hb2 : Nat.ble bytes 65536 = true) (hz : zeroT C.P e = some zv) (hzl : zv.cells.length = z) (hzp : zv.cells.all AV.plain = true)
    (hx : evE env x = some v) (hvl : v.cells.length = z) (hv : v.cells.all AV.plain = true) (hd1 : Nat.blt d1 nt = true) (hd2 : Nat.blt d2 nt = true) (hy : evE ((d1, .slc st.next 0 1 (some 1)) :: env) y = some xv) (hrow : IsRow st xv f e z L) (hext : Ext st0 st) (hf : xv = .nils ∨ st0.next ≤ f) (hl : L.length ≤ 1000000)
    (k : ∀ x' st' f', IsRow st' x' f' e z (L ++ [v.cells]) → Ext st0 st' → st0.next ≤ f' → (∀ k, k < st.next → st'.heap.get k = st.heap.get k) → (∀ k, k ≠ f → k < st.next → st'.fams.get k = st.fams.get k) → st.next ≤ st'.next → (∀ c o g, st'.heap.get c = some o → o.fam = some g → st.heap.get c = some o ∨ g = f') → (f' = f ∨ st.next ≤ f') → WR C nt rd l ks ((d2, x') :: (d1, .slc st.next 0 1 (some 1)) :: env) st' Q) :
    WR C nt rd (⟨.buildSlice t 1 #[(0, x)], some d1, none⟩ :: ⟨.call ⟨.builtin .append, #[y, .tmp d1], #[t, t]⟩, some d2, none⟩ :: l) ks env st Q := by
  have hlz : Nat.ble 1 z = true := ble_true.2 hz1
  have hlit : aopR C.P (evE env) st (.buildSlice t 1 #[(0, x)]) = some (.slc st.next 0 1 (some 1), st.push (boxO e v)) := by
    have hrep : rep 1 zv.cells = zv.cells := by
      show zv.cells ++ [] = _
      rw [List.append_nil]
    have hfill : fill (fun i => some (Nat.mul i z, z)) (rep 1 zv.cells) [(0, v)] = some v.cells := by
      have h1 : (Nat.beq v.cells.length z && Nat.ble 1 z && v.cells.all AV.plain) = true := by rw [hvl, beq_true.2 rfl, hlz, hv]; rfl
      have h0 : Nat.mul 0 z = 0 := Nat.zero_mul z
      rw [hrep]
      simp only [fill, bnd_some, h1, cnd_true, h0, overAt_all (show zv.cells.length = v.cells.length by rw [hzl, hvl])]
    have hg : (Nat.ble 1 z && Nat.beq zv.cells.length z && Nat.ble (Nat.mul 1 z) 16777216 && zv.cells.all AV.plain) = true := by
      have : Nat.mul 1 z = z := Nat.one_mul z
      rw [hzl, beq_true.2 rfl, hlz, hzp, this, ble_true.2 hz2]; rfl
    have hrowO : rowOf e z 1 v.cells .rw = some (boxO e v) := by
      unfold rowOf
      rw [chunks_whole hvl, bnd_some]
      unfold boxO
      rw [hvl]
      rfl
    simp only [aopR, evpsR, hx, bnd_some, oBuildSlice, ht, hs, hz, hg, cond_true, hfill, hrowO, lay]
  refine WR.op rfl rfl hlit hd1 ?_
  have hbx := push_self st (boxO e v)
  have hnx : (st.push (boxO e v)).next = st.next + 1 := push_next _ _
  have hload : firstCells (st.push (boxO e v)) z 1 (.slc st.next 0 1 (some 1)) = some v.cells := by
    show loadCells _ st.next 0 (Nat.mul 1 z) = _
    have e1 : Nat.mul 1 z = z := Nat.one_mul z
    unfold loadCells
    rw [e1, box_cells hbx, bnd_some, hvl]
    obtain ⟨z', rfl⟩ : ∃ z', z = z' + 1 := ⟨z - 1, by omega⟩
    have e2 : Nat.div 0 (z' + 1) = 0 := Nat.zero_div _
    have e3 : Nat.mod 0 (z' + 1) = 0 := Nat.zero_mod _
    have e4 : Nat.ble (Nat.add 0 (z' + 1)) (z' + 1) = true := ble_true.2 (by show 0 + (z' + 1) ≤ _; omega)
    simp only [Blk.load, e2, e3, e4, cond_true]
    show ((cnd (Nat.blt 0 1) ((T.nil.set 0 v.cells).get 0) none).bnd fun l => takeN (z' + 1) (l.drop 0)) = _
    rw [T.get_set_same]
    show takeN (z' + 1) (v.cells.drop 0) = _
    rw [List.drop_zero, takeN_of (by omega), ← hvl, List.take_length]
  obtain ⟨x', st', f', h1, h2, e3, e4, e5, e6, e7, _, e8, e9⟩ := IsRow.appendM (st0 := st0) (n := 1) (bytes := bytes) (new := v.cells) (hrow.ext ((Ext.refl st).push (boxO e v))) (hext.push _) hf hz1 (Nat.le_refl 1) (chunks_whole hvl) hv hb2 (by omega)
  have happ : aopR C.P (evE ((d1, .slc st.next 0 1 (some 1)) :: env)) (st.push (boxO e v)) (.call ⟨.builtin .append, #[y, .tmp d1], #[t, t]⟩) = some (x', st') := by
    have hg : (Nat.ble 1 z && Nat.ble 1 bytes && notInt (.slice e) && Nat.beq zv.cells.length z) = true := by rw [hzl, hb1, hlz, beq_true.2 rfl]; rfl
    have hy2 : evE ((d1, .slc st.next 0 1 (some 1)) :: env) (.tmp d1) = some (.slc st.next 0 1 (some 1)) := by simp only [evE, lookE_cons, if_pos]
    simp only [aopR, evsR, hy, hy2, bnd_some, builtinOp, AE.append, ht, hs, hby, lenOf, hz, hg, cnd_true, hload, h1]
  refine WR.op rfl rfl happ hd2 ?_
  refine k x' st' f' h2 e3 e4 (fun k hk => ?_) (fun k hkf hk => ?_) (by omega) (fun c o g hc hg => ?_) (e9.imp id fun h => by omega)
  · rw [e5 k (by omega), push_get, if_neg (by omega)]
  · rw [e6 k hkf (by omega), push_fams]
  · rcases e8 c o g hc hg with h | h
    · rw [push_get] at h
      split at h
      · obtain rfl := Option.some.inj h
        cases hg
      · exact .inl h
    · exact .inr h
end Go.AE

namespace Go.AE
open Go Go.RowKit

/-- The state goes on; at the numbers N it is as it was. -/
structure Same (N : Nat → Prop) (st st' : St) : Prop where
  nx : st.next ≤ st'.next
  heap : ∀ k, N k → st'.heap.get k = st.heap.get k
  fams : ∀ k, N k → st'.fams.get k = st.fams.get k
  nf : ∀ c o f, st'.heap.get c = some o → o.fam = some f → N f → st.heap.get c = some o
  bf : ∀ c o f, st'.heap.get c = some o → o.fam = some f → st.heap.get c = some o ∨ f < st'.next
theorem Same.refl (N : Nat → Prop) (st : St) : Same N st st := ⟨Nat.le_refl _, fun _ _ => rfl, fun _ _ => rfl, fun _ _ _ h _ _ => h, fun _ _ _ h _ => .inl h⟩
theorem Same.trans {N : Nat → Prop} {a b c : St} (h : Same N a b) (k : Same N b c) : Same N a c :=
  ⟨Nat.le_trans h.nx k.nx, fun x hx => (k.heap x hx).trans (h.heap x hx), fun x hx => (k.fams x hx).trans (h.fams x hx), fun c o f hc hf hn => h.nf c o f (k.nf c o f hc hf hn) hf hn, fun x o f ho hf => (k.bf x o f ho hf).elim (fun h1 => (h.bf x o f h1 hf).imp id fun q => Nat.lt_of_lt_of_le q k.nx) .inr⟩
theorem Ext.same {N : Nat → Prop} {st st' : St} (h : Ext st st') (hN : ∀ k, N k → k < st.next) : Same N st st' := ⟨h.nx, fun k hk => h.heap k (hN k hk), fun k hk => h.fams k (hN k hk), fun c o f hc hf hn => h.nf c o f hc hf (hN f hn), h.bf⟩
theorem Same.set {N : Nat → Prop} {st : St} {b : Nat} (hb : ¬ N b) (o : AObj) (ho : o.fam = none := by rfl) : Same N st (st.setObj b o) := by
  refine ⟨by rw [set_next]; exact Nat.le_refl _, fun k hk => ?_, fun k _ => by rw [set_fams], fun c x f hc hf hn => ?_, fun c x f hc hf => ?_⟩
  · rw [set_get, if_neg]
    rintro rfl
    exact hb hk
  · rw [set_get] at hc
    split at hc
    · obtain rfl := Option.some.inj hc
      rw [ho] at hf; cases hf
    · exact hc
  · rw [set_get] at hc
    split at hc
    · obtain rfl := Option.some.inj hc
      rw [ho] at hf; cases hf
    · exact .inl hc
theorem Same.push {N : Nat → Prop} {st : St} (hN : ∀ k, N k → k < st.next) (o : AObj) (ho : o.fam = none := by rfl) : Same N st (st.push o) := ((Ext.refl st).push o ho).same hN
/-- A row of these elements, at the numbers N. -/
def ElsN (N : Nat → Prop) (st : St) (x : AV) (z : Nat) (l : List (List AV)) : Prop := Els st x z l ∧ (∀ m n k c, x = .slc m n k c → N m ∧ ∀ B f, st.heap.get m = some (.cells B) → B.k = .opn f → N f)
theorem ElsN.same {N : Nat → Prop} {st st' : St} {x : AV} {z : Nat} {l : List (List AV)} (h : ElsN N st x z l) (k : Same N st st') : ElsN N st' x z l := by
  obtain ⟨h, hN⟩ := h
  rcases h with h | ⟨m, c, B, h1, h2, h3, h4, h5, h6, h7, h8⟩
  · exact ⟨.inl h, fun m n k c hx => by rw [h.1] at hx; cases hx⟩
  · obtain ⟨n1, n2⟩ := hN _ _ _ _ h1
    have hm := k.heap m n1
    refine ⟨.inr ⟨m, c, B, h1, by rw [hm]; exact h2, ?_, h4, h5, h6, Nat.lt_of_lt_of_le h7 k.nx, fun f hf => Nat.lt_of_lt_of_le (h8 f hf) k.nx⟩, fun m' n' k' c' hx => ?_⟩
    · unfold cellsOf at h3 ⊢
      rw [h2] at h3
      rw [hm, h2]
      show seenBlk st' m B = _
      have h3 : seenBlk st m B = some B := h3
      unfold seenBlk at h3 ⊢
      cases hk : B.k with
      | opn f =>
        rw [hk] at h3
        simp only at h3 ⊢
        rw [k.fams f (n2 B f h2 hk)]
        exact h3
      | ro => rfl
      | rw => rfl
    · rw [h1] at hx
      cases hx
      exact ⟨n1, fun B' f hB hk => n2 B' f (by rw [← hm]; exact hB) hk⟩
end Go.AE

namespace Go.AE
open Go Go.RowKit

/-! Readings that are alike below n -/
section
variable {σ σ' : Nat → Nat} {n : Nat} (hσ : ∀ b, b < n → σ b = σ' b)
include hσ
theorem low1_cg {v : AV} (h : low1 n v = true) : ren σ v = ren σ' v := by
  cases v <;> simp only [low1, reduceCtorEq, blt_true] at h <;> first | rfl | simp only [ren, hσ _ h]
theorem lowL_cg : ∀ {l : List AV}, lowL n l = true → renL σ l = renL σ' l
  | [], _ => rfl
  | v :: r, h => by
    simp only [lowL, Bool.and_eq_true] at h
    rw [renL, renL, low1_cg hσ h.1, lowL_cg h.2]
theorem lowA_cg {v : AV} (h : lowA n v = true) : ren σ v = ren σ' v := by
  unfold lowA at h
  split at h
  · rw [ren, ren, lowL_cg hσ h]
  · exact low1_cg hσ h
theorem lowAs_cg : ∀ {l : List AV}, lowAs n l = true → renL σ l = renL σ' l
  | [], _ => rfl
  | v :: r, h => by
    simp only [lowAs, Bool.and_eq_true] at h
    rw [renL, renL, lowA_cg hσ h.1, lowAs_cg h.2]
theorem lowT_cg : ∀ {t : T (List AV)}, lowT n t = true → t.map (renL σ) = t.map (renL σ')
  | .nil, _ => rfl
  | .node l v r, h => by
    simp only [lowT, Bool.and_eq_true] at h
    rw [T.map, T.map, lowT_cg h.1, lowT_cg h.2.2]
    cases v with
    | none => rfl
    | some l =>
      have := lowL_cg hσ h.2.1
      simp only [Option.map, this]
theorem lowM_cg : ∀ {es : List (AV × AV)}, lowM n es = true → (es.map fun p => (ren σ p.1, ren σ p.2)) = es.map fun p => (ren σ' p.1, ren σ' p.2)
  | [], _ => rfl
  | (a, b) :: r, h => by
    simp only [lowM, Bool.and_eq_true] at h
    rw [List.map_cons, List.map_cons, lowM_cg h.2.2]
    simp only [lowA_cg hσ h.1, lowA_cg hσ h.2.1]
theorem lowO_cg {o : AObj} (h : lowO n o = true) : renO σ o = renO σ' o := by
  cases o with
  | cells B =>
    obtain ⟨e, z, t, hi, room, k⟩ := B
    simp only [lowO, Bool.and_eq_true] at h
    simp only [renO, renB, lowT_cg hσ h.2]
    cases k with
    | opn f => simp only [renK, hσ f (blt_true.1 h.1)]
    | ro => rfl
    | rw => rfl
  | map es =>
    simp only [lowO] at h
    simp only [renO, lowM_cg hσ h]
  | siter r p => rfl
  | loop => simp [lowO] at h
end
theorem lowO_fam {n : Nat} {o : AObj} (h : lowO n o = true) {f : Nat} (hf : o.fam = some f) : f < n := by
  cases o with
  | cells B =>
    obtain ⟨e, z, t, hi, room, k⟩ := B
    simp only [lowO, Bool.and_eq_true] at h
    cases k with
    | opn g =>
      have : some g = some f := hf
      obtain rfl := Option.some.inj this
      exact blt_true.1 h.1
    | ro => cases hf
    | rw => cases hf
  | _ => cases hf
/-- Below n as τ says, from there on m and on. -/
def tl (τ : Nat → Nat) (n m b : Nat) : Nat := if b < n then τ b else m + (b - n)
theorem tl_lo {τ : Nat → Nat} {n m b : Nat} (h : b < n) : tl τ n m b = τ b := if_pos h
theorem tl_hi {τ : Nat → Nat} {n m b : Nat} (h : n ≤ b) : tl τ n m b = m + (b - n) := if_neg (by omega)
/-- s0 stands in st, its numbers read by τ. -/
def PT (τ : Nat → Nat) (s0 st : St) : Prop := Part (tl τ s0.next st.next) s0 st
/-- No block is of a family that is not there yet. -/
def NF (st : St) : Prop := ∀ c o f, st.heap.get c = some o → o.fam = some f → f < st.next
theorem NF.ext {st st' : St} (h : NF st) (k : Ext st st') : NF st' := fun c o f hc hf => (k.bf c o f hc hf).elim (fun h1 => Nat.lt_of_lt_of_le (h c o f h1 hf) k.nx) id
theorem NF.same {N : Nat → Prop} {st st' : St} (h : NF st) (k : Same N st st') : NF st' := fun c o f hc hf => (k.bf c o f hc hf).elim (fun h1 => Nat.lt_of_lt_of_le (h c o f h1 hf) k.nx) id
theorem PT.lt {τ : Nat → Nat} {s0 st : St} (h : PT τ s0 st) {b : Nat} (hb : b < s0.next) : τ b < st.next := by
  have := Part.lt h b hb
  rwa [tl_lo hb] at this
theorem PT.blk {τ : Nat → Nat} {s0 st : St} (h : PT τ s0 st) (hw : WfS s0) {b : Nat} {o : AObj} (hb : s0.heap.get b = some o) : st.heap.get (τ b) = some (renO (tl τ s0.next st.next) o) := by
  have := Part.blk h b o hb
  rwa [tl_lo (hw.dom b o hb).1] at this
theorem PT.same {N : Nat → Prop} {τ : Nat → Nat} {s0 st st' : St} (h : PT τ s0 st) (h0 : LowS s0) (k : Same N st st') (hN : ∀ b, b < s0.next → N (τ b)) : PT τ s0 st' := by
  have hw := h0.wf
  have hlow := h0.low
  have hlf := h0.fam
  have hnx := k.nx
  have h64 := hw.le
  have hlt : ∀ b, b < s0.next → τ b < st.next := fun b hb => h.lt hb
  have hmono : ∀ a b, a < b → b < s0.next → τ a < τ b := fun a b hab hb => by
    have := Part.mono h a b hab
    rwa [tl_lo hb, tl_lo (by omega)] at this
  have hren : ∀ o, lowO s0.next o = true → renO (tl τ s0.next st'.next) o = renO (tl τ s0.next st.next) o := by
    intro o ho
    exact lowO_cg (fun b hb => by rw [tl_lo hb, tl_lo hb]) ho
  have hrenF : ∀ f F, s0.fams.get f = some F → renF (tl τ s0.next st'.next) F = renF (tl τ s0.next st.next) F := by
    intro f F hF
    obtain ⟨h1, h2⟩ := hlf f F hF
    cases F
    simp only [renF, tl_lo h1, tl_lo h2]
  refine ⟨fun a b hab => ?_, fun g hg => ?_, fun b hb => ?_, fun b hb => ?_, fun b o hb => ?_, fun f F hF => ?_, fun f F c o hF hc hf => ?_⟩
  · by_cases hb : b < s0.next
    · rw [tl_lo hb, tl_lo (by omega)]
      exact hmono a b hab hb
    · rw [tl_hi (b := b) (by omega)]
      by_cases ha : a < s0.next
      · rw [tl_lo ha]
        have := hlt a ha
        omega
      · rw [tl_hi (b := a) (by omega)]; omega
  · have := Part.glob h g hg
    rw [tl_lo (by omega)] at this ⊢
    exact this
  · rw [tl_lo hb]
    have := hlt b hb
    omega
  · rw [tl_hi hb]; omega
  · have hb0 := (hw.dom b o hb).1
    rw [tl_lo hb0, k.heap _ (hN b hb0), hren o (hlow b o hb)]
    exact h.blk hw hb
  · have hf0 := (hw.fam f F hF).1
    have := Part.fam h f F hF
    rw [tl_lo hf0] at this ⊢
    rw [k.fams _ (hN f hf0), hrenF f F hF]
    exact this
  · have hf0 := (hw.fam f F hF).1
    rw [tl_lo hf0] at hf
    have hc' := k.nf c o _ hc hf (hN f hf0)
    obtain ⟨b, o0, h1, h2⟩ := Part.famcl h f F c o hF hc' (by rw [tl_lo hf0]; exact hf)
    have hb0 := (hw.dom b o0 h2).1
    rw [tl_lo hb0] at h1
    exact ⟨b, o0, by rw [tl_lo hb0]; exact h1, h2⟩
theorem PT.ext {τ : Nat → Nat} {s0 st st' : St} (h : PT τ s0 st) (h0 : LowS s0) (k : Ext st st') : PT τ s0 st' := h.same h0 (k.same (N := fun b => b < st.next) fun _ h => h) fun _ hb => h.lt hb
/-! A memo laid upon what is known -/
noncomputable def findA {α : Type} (k : Nat) : List (Nat × α) → Option α
  | [] => none
  | p :: r => cnd (Nat.beq p.1 k) (some p.2) (findA k r)
theorem findA_mem {α : Type} {k : Nat} {x : α} : ∀ {l : List (Nat × α)}, findA k l = some x → (k, x) ∈ l
  | [], h => by cases h
  | p :: r, h => by
    unfold findA at h
    cases hb : Nat.beq p.1 k with
    | true =>
      rw [hb] at h
      have : some p.2 = some x := h
      obtain rfl := Option.some.inj this
      rw [← beq_true.1 hb]
      exact List.mem_cons_self
    | false =>
      rw [hb] at h
      exact List.mem_cons_of_mem _ (findA_mem h)
noncomputable def layH0 (h : T AObj) : List (Nat × AObj) → T AObj
  | [] => h
  | p :: r => (layH0 h r).set p.1 p.2
noncomputable def layF0 (h : T Fam) : List (Nat × Fam) → T Fam
  | [] => h
  | p :: r => (layF0 h r).set p.1 p.2
theorem layH0_get {h : T AObj} {k : Nat} : ∀ (l : List (Nat × AObj)), (layH0 h l).get k = (match findA k l with | some o => some o | none => h.get k)
  | [] => rfl
  | p :: r => by
    rw [layH0, T.get_set, findA]
    by_cases e : k = p.1
    · rw [if_pos e, beq_true.2 e.symm]; rfl
    · have : Nat.beq p.1 k = false := by
        cases hb : Nat.beq p.1 k with
        | false => rfl
        | true => exact absurd (beq_true.1 hb).symm e
      rw [if_neg e, this, layH0_get r]; rfl
theorem layF0_get {h : T Fam} {k : Nat} : ∀ (l : List (Nat × Fam)), (layF0 h l).get k = (match findA k l with | some o => some o | none => h.get k)
  | [] => rfl
  | p :: r => by
    rw [layF0, T.get_set, findA]
    by_cases e : k = p.1
    · rw [if_pos e, beq_true.2 e.symm]; rfl
    · have : Nat.beq p.1 k = false := by
        cases hb : Nat.beq p.1 k with
        | false => rfl
        | true => exact absurd (beq_true.1 hb).symm e
      rw [if_neg e, this, layF0_get r]; rfl
theorem layH_get {σ : Nat → Nat} (hσ : ∀ a b, σ a = σ b → a = b) {h : T AObj} {k : Nat} : ∀ (l : List (Nat × AObj)), (layH σ h l).get (σ k) = (match findA k l with | some o => some (renO σ o) | none => h.get (σ k))
  | [] => rfl
  | p :: r => by
    rw [layH, T.get_set, findA]
    by_cases e : k = p.1
    · rw [if_pos (by rw [e]), beq_true.2 e.symm]; rfl
    · have : Nat.beq p.1 k = false := by
        cases hb : Nat.beq p.1 k with
        | false => rfl
        | true => exact absurd (beq_true.1 hb).symm e
      rw [if_neg (fun x => e (hσ _ _ x)), this, layH_get hσ r]; rfl
theorem layF_get {σ : Nat → Nat} (hσ : ∀ a b, σ a = σ b → a = b) {h : T Fam} {k : Nat} : ∀ (l : List (Nat × Fam)), (layF σ h l).get (σ k) = (match findA k l with | some o => some (renF σ o) | none => h.get (σ k))
  | [] => rfl
  | p :: r => by
    rw [layF, T.get_set, findA]
    by_cases e : k = p.1
    · rw [if_pos (by rw [e]), beq_true.2 e.symm]; rfl
    · have : Nat.beq p.1 k = false := by
        cases hb : Nat.beq p.1 k with
        | false => rfl
        | true => exact absurd (beq_true.1 hb).symm e
      rw [if_neg (fun x => e (hσ _ _ x)), this, layF_get hσ r]; rfl
/-- The known state with the memo upon it. -/
noncomputable def addS (m : Memo) (s0 : St) : St := ⟨layH0 s0.heap m.live, layF0 s0.fams m.fams, m.n1⟩
/-- What the memo lays is new, and stands by itself. -/
structure Memo.Ok (m : Memo) (n0 : Nat) : Prop where
  le : n0 ≤ m.n1
  live : ∀ p ∈ m.live, n0 ≤ p.1 ∧ p.1 < m.n1 ∧ NoLoop p.2 ∧ lowO m.n1 p.2 = true ∧ ∀ f, p.2.fam = some f → n0 ≤ f ∧ ∃ F, findA f m.fams = some F
  fams : ∀ p ∈ m.fams, n0 ≤ p.1 ∧ p.1 < m.n1 ∧ ∃ o, findA p.2.live m.live = some o ∧ o.fam = some p.1 ∧ p.2.since ≤ p.2.live ∧ p.2.since < m.n1
noncomputable def noLoopB : AObj → Bool
  | .loop .. => false
  | _ => true
noncomputable def okFam (n0 : Nat) (fs : List (Nat × Fam)) : Option Nat → Bool
  | some f => Nat.ble n0 f && (match findA f fs with | some _ => true | none => false)
  | none => true
noncomputable def okH (n0 n1 : Nat) (fs : List (Nat × Fam)) : List (Nat × AObj) → Bool
  | [] => true
  | p :: r => Nat.ble n0 p.1 && (Nat.blt p.1 n1 && (noLoopB p.2 && (lowO n1 p.2 && (okFam n0 fs p.2.fam && okH n0 n1 fs r))))
noncomputable def okFL (f s l : Nat) : Option AObj → Bool
  | some o => (match o.fam with | some g => Nat.beq g f | none => false) && Nat.ble s l
  | none => false
noncomputable def okF (n0 n1 : Nat) (hs : List (Nat × AObj)) : List (Nat × Fam) → Bool
  | [] => true
  | p :: r => Nat.ble n0 p.1 && (Nat.blt p.1 n1 && (Nat.blt p.2.since n1 && (okFL p.1 p.2.since p.2.live (findA p.2.live hs) && okF n0 n1 hs r)))
noncomputable def Memo.okB (m : Memo) (n0 : Nat) : Bool := Nat.ble n0 m.n1 && (okH n0 m.n1 m.fams m.live && okF n0 m.n1 m.live m.fams)
theorem Memo.okB_of {m : Memo} {n0 : Nat} (h : m.okB n0 = true) : m.Ok n0 := by
  simp only [Memo.okB, Bool.and_eq_true, ble_true] at h
  obtain ⟨h1, h2, h3⟩ := h
  have hH : ∀ {l : List (Nat × AObj)}, okH n0 m.n1 m.fams l = true → ∀ p ∈ l, n0 ≤ p.1 ∧ p.1 < m.n1 ∧ NoLoop p.2 ∧ lowO m.n1 p.2 = true ∧ ∀ f, p.2.fam = some f → n0 ≤ f ∧ ∃ F, findA f m.fams = some F := by
    intro l
    induction l with
    | nil => intro _ p hp; cases hp
    | cons q r ih =>
      intro h p hp
      simp only [okH, Bool.and_eq_true, ble_true, blt_true] at h
      obtain ⟨a1, a2, a3, a4, a5, a6⟩ := h
      rcases List.mem_cons.1 hp with rfl | hp
      · refine ⟨a1, a2, ?_, a4, fun f hf => ?_⟩
        · cases hq : p.2 <;> rw [hq] at a3 <;> first | trivial | (cases a3)
        · rw [hf] at a5
          simp only [okFam, Bool.and_eq_true, ble_true] at a5
          refine ⟨a5.1, ?_⟩
          cases hx : findA f m.fams with
          | some F => exact ⟨F, rfl⟩
          | none => rw [hx] at a5; exact absurd a5.2 (by decide)
      · exact ih a6 p hp
  have hF : ∀ {l : List (Nat × Fam)}, okF n0 m.n1 m.live l = true → ∀ p ∈ l, n0 ≤ p.1 ∧ p.1 < m.n1 ∧ ∃ o, findA p.2.live m.live = some o ∧ o.fam = some p.1 ∧ p.2.since ≤ p.2.live ∧ p.2.since < m.n1 := by
    intro l
    induction l with
    | nil => intro _ p hp; cases hp
    | cons q r ih =>
      intro h p hp
      simp only [okF, Bool.and_eq_true, ble_true, blt_true] at h
      obtain ⟨a1, a2, a3, a4, a5⟩ := h
      rcases List.mem_cons.1 hp with rfl | hp
      · refine ⟨a1, a2, ?_⟩
        cases hx : findA p.2.live m.live with
        | none => rw [hx] at a4; cases a4
        | some o =>
          rw [hx] at a4
          simp only [okFL, Bool.and_eq_true, ble_true] at a4
          refine ⟨o, rfl, ?_, a4.2, a3⟩
          cases ho : o.fam with
          | none => rw [ho] at a4; exact absurd a4.1 Bool.false_ne_true
          | some g =>
            rw [ho] at a4
            rw [beq_true.1 a4.1]
      · exact ih a5 p hp
  exact ⟨h1, hH h2, hF h3⟩
theorem low1_mono {n m : Nat} (h : n ≤ m) {v : AV} (k : low1 n v = true) : low1 m v = true := by
  cases v <;> simp only [low1, reduceCtorEq, blt_true] at k ⊢ <;> omega
theorem lowL_mono {n m : Nat} (h : n ≤ m) : ∀ {l : List AV}, lowL n l = true → lowL m l = true
  | [], _ => rfl
  | v :: r, k => by
    simp only [lowL, Bool.and_eq_true] at k ⊢
    exact ⟨low1_mono h k.1, lowL_mono h k.2⟩
theorem lowA_mono {n m : Nat} (h : n ≤ m) {v : AV} (k : lowA n v = true) : lowA m v = true := by
  unfold lowA at k ⊢
  split at k
  · exact lowL_mono h k
  · exact low1_mono h k
theorem lowT_mono {n m : Nat} (h : n ≤ m) : ∀ {t : T (List AV)}, lowT n t = true → lowT m t = true
  | .nil, _ => rfl
  | .node l v r, k => by
    simp only [lowT, Bool.and_eq_true] at k ⊢
    refine ⟨lowT_mono h k.1, ?_, lowT_mono h k.2.2⟩
    cases v with
    | none => rfl
    | some x => exact lowL_mono h k.2.1
theorem lowM_mono {n m : Nat} (h : n ≤ m) : ∀ {es : List (AV × AV)}, lowM n es = true → lowM m es = true
  | [], _ => rfl
  | (a, b) :: r, k => by
    simp only [lowM, Bool.and_eq_true] at k ⊢
    exact ⟨lowA_mono h k.1, lowA_mono h k.2.1, lowM_mono h k.2.2⟩
theorem lowO_mono {n m : Nat} (h : n ≤ m) {o : AObj} (k : lowO n o = true) : lowO m o = true := by
  cases o with
  | cells B =>
    obtain ⟨e, z, t, hi, room, kk⟩ := B
    simp only [lowO, Bool.and_eq_true] at k ⊢
    refine ⟨?_, lowT_mono h k.2⟩
    cases kk with
    | opn f => have := blt_true.1 k.1; exact blt_true.2 (by omega)
    | ro => rfl
    | rw => rfl
  | map es => exact lowM_mono h k
  | siter r p => rfl
  | loop => simp [lowO] at k
theorem addS_low {m : Memo} {s0 : St} (h0 : LowS s0) (hm : m.Ok s0.next) : LowS (addS m s0) := by
  have h64 := h0.wf.le
  have hle := hm.le
  have hH : ∀ b o, (addS m s0).heap.get b = some o → (findA b m.live = some o) ∨ (findA b m.live = none ∧ s0.heap.get b = some o) := by
    intro b o hb
    have hb : (layH0 s0.heap m.live).get b = some o := hb
    rw [layH0_get] at hb
    cases hx : findA b m.live with
    | some x => rw [hx] at hb; exact .inl hb
    | none => rw [hx] at hb; exact .inr ⟨rfl, hb⟩
  have hF : ∀ b o, (addS m s0).fams.get b = some o → (findA b m.fams = some o) ∨ (findA b m.fams = none ∧ s0.fams.get b = some o) := by
    intro b o hb
    have hb : (layF0 s0.fams m.fams).get b = some o := hb
    rw [layF0_get] at hb
    cases hx : findA b m.fams with
    | some x => rw [hx] at hb; exact .inl hb
    | none => rw [hx] at hb; exact .inr ⟨rfl, hb⟩
  refine ⟨⟨Nat.le_trans h64 hle, fun b o hb => ?_, fun b o f hb hf => ?_, fun f F hf => ?_⟩, fun b o hb => ?_, fun f F hf => ?_⟩
  · rcases hH b o hb with h | ⟨_, h⟩
    · have := hm.live _ (findA_mem h)
      exact ⟨this.2.1, this.2.2.1⟩
    · have := h0.wf.dom b o h
      exact ⟨Nat.lt_of_lt_of_le this.1 hle, this.2⟩
  · show ∃ F, (layF0 s0.fams m.fams).get f = some F
    rw [layF0_get]
    rcases hH b o hb with h | ⟨_, h⟩
    · obtain ⟨F, hF'⟩ := ((hm.live _ (findA_mem h)).2.2.2.2 f hf).2
      rw [hF']; exact ⟨F, rfl⟩
    · obtain ⟨F, h1⟩ := h0.wf.famk b o f h hf
      cases hx : findA f m.fams with
      | some x => exact ⟨x, rfl⟩
      | none => exact ⟨F, h1⟩
  · rcases hF f F hf with h | ⟨_, h⟩
    · obtain ⟨_, h2, o, h3, h4, h5, _⟩ := hm.fams _ (findA_mem h)
      refine ⟨h2, o, ?_, h4, h5⟩
      show (layH0 s0.heap m.live).get F.live = some o
      rw [layH0_get, h3]
    · obtain ⟨h1, o, h2, h3, h4⟩ := h0.wf.fam f F h
      refine ⟨Nat.lt_of_lt_of_le h1 hle, o, ?_, h3, h4⟩
      show (layH0 s0.heap m.live).get F.live = some o
      rw [layH0_get]
      cases hx : findA F.live m.live with
      | some x =>
        have := (hm.live _ (findA_mem hx)).1
        have := (h0.wf.dom _ o h2).1
        omega
      | none => exact h2
  · rcases hH b o hb with h | ⟨_, h⟩
    · exact (hm.live _ (findA_mem h)).2.2.2.1
    · exact lowO_mono hle (h0.low b o h)
  · rcases hF f F hf with h | ⟨_, h⟩
    · obtain ⟨_, _, o, h3, _, _, h6⟩ := hm.fams _ (findA_mem h)
      exact ⟨(hm.live _ (findA_mem h3)).2.1, h6⟩
    · obtain ⟨h1, h2⟩ := h0.fam f F h
      exact ⟨Nat.lt_of_lt_of_le h1 hle, Nat.lt_of_lt_of_le h2 hle⟩
theorem addL_next {σ : Nat → Nat} (m : Memo) (st : St) : (addL σ m st).next = σ m.n1 := rfl
theorem PT.next {τ : Nat → Nat} {s0 st : St} {m : Memo} (hle : s0.next ≤ m.n1) : (addL (tl τ s0.next st.next) m st).next = st.next + (m.n1 - s0.next) := by
  rw [addL_next, tl_hi hle]
theorem PT.addExt {τ : Nat → Nat} {s0 st : St} {m : Memo} (h : PT τ s0 st) (hm : m.Ok s0.next) : Ext st (addL (tl τ s0.next st.next) m st) := by
  have hle := hm.le
  have hi : ∀ b, s0.next ≤ b → st.next ≤ tl τ s0.next st.next b := fun b hb => by rw [tl_hi hb]; omega
  have hn := PT.next (τ := τ) (st := st) hle
  refine ⟨by omega, fun k hk => ?_, fun k hk => ?_, fun c o f hc hf hlt => ?_, fun c o f hc hf => ?_⟩
  · rcases layH_cases (σ := tl τ s0.next st.next) (h := st.heap) (c := k) m.live with ⟨p, h1, h2, _⟩ | ⟨_, h3⟩
    · have := hi p.1 (hm.live p h1).1
      omega
    · exact h3
  · rcases layF_cases (σ := tl τ s0.next st.next) (h := st.fams) (c := k) m.fams with ⟨p, h1, h2, _⟩ | ⟨_, h3⟩
    · have := hi p.1 (hm.fams p h1).1
      omega
    · exact h3
  · rcases layH_cases (σ := tl τ s0.next st.next) (h := st.heap) (c := c) m.live with ⟨p, h1, h2, h3⟩ | ⟨_, h3⟩
    · obtain rfl := Option.some.inj (h3.symm.trans hc)
      rw [renO_fam] at hf
      cases hx : p.2.fam with
      | none => rw [hx] at hf; cases hf
      | some g =>
        rw [hx] at hf
        obtain rfl := Option.some.inj hf
        have := hi g ((hm.live p h1).2.2.2.2 g hx).1
        omega
    · exact h3.symm.trans hc
  · rcases layH_cases (σ := tl τ s0.next st.next) (h := st.heap) (c := c) m.live with ⟨p, h1, h2, h3⟩ | ⟨_, h3⟩
    · right
      obtain rfl := Option.some.inj (h3.symm.trans hc)
      rw [renO_fam] at hf
      cases hx : p.2.fam with
      | none => rw [hx] at hf; cases hf
      | some g =>
        rw [hx] at hf
        obtain rfl := Option.some.inj hf
        obtain ⟨h4, F, h5⟩ := (hm.live p h1).2.2.2.2 g hx
        have := (hm.fams _ (findA_mem h5)).2.1
        rw [addL_next]
        exact Part.mono h _ _ this
    · exact .inl (h3.symm.trans hc)
/-- The reading goes on. -/
theorem tl_tl {τ : Nat → Nat} {n m n1 b : Nat} (hle : n ≤ n1) : tl (tl τ n m) n1 (m + (n1 - n)) b = tl τ n m b := by
  by_cases h1 : b < n1
  · rw [tl_lo h1]
  · rw [tl_hi (by omega), tl_hi (by omega)]; omega
theorem PT.add {τ : Nat → Nat} {s0 st : St} {m : Memo} (h : PT τ s0 st) (h0 : LowS s0) (hm : m.Ok s0.next) (hnf : NF st) : PT (tl τ s0.next st.next) (addS m s0) (addL (tl τ s0.next st.next) m st) := by
  have hle := hm.le
  have hn := PT.next (τ := τ) (st := st) hle
  have hi : ∀ b, s0.next ≤ b → st.next ≤ tl τ s0.next st.next b := fun b hb => by rw [tl_hi hb]; omega
  have e : tl (tl τ s0.next st.next) (addS m s0).next (addL (tl τ s0.next st.next) m st).next = tl τ s0.next st.next := by
    funext b
    rw [hn]
    exact tl_tl hle
  unfold PT
  rw [e]
  refine ⟨h.mono, h.glob, fun b hb => ?_, fun b hb => ?_, fun b o hb => ?_, fun f F hF => ?_, fun f F c o hF hc hf => ?_⟩
  · rw [addL_next]; exact Part.mono h _ _ hb
  · rw [addL_next]; exact Part.le' h hb
  · have hb : (layH0 s0.heap m.live).get b = some o := hb
    show (layH _ st.heap m.live).get _ = _
    rw [layH_get (fun _ _ x => Part.inj h x)]
    rw [layH0_get] at hb
    cases hx : findA b m.live with
    | some x => rw [hx] at hb; obtain rfl := Option.some.inj hb; rfl
    | none => rw [hx] at hb; exact Part.blk h b o hb
  · have hF : (layF0 s0.fams m.fams).get f = some F := hF
    show (layF _ st.fams m.fams).get _ = _
    rw [layF_get (fun _ _ x => Part.inj h x)]
    rw [layF0_get] at hF
    cases hx : findA f m.fams with
    | some x => rw [hx] at hF; obtain rfl := Option.some.inj hF; rfl
    | none => rw [hx] at hF; exact Part.fam h f F hF
  · rcases layH_cases (σ := tl τ s0.next st.next) (h := st.heap) (c := c) m.live with ⟨p, h1, h2, _⟩ | ⟨_, h3⟩
    · refine ⟨p.1, ?_⟩
      have : ∃ o0, (layH0 s0.heap m.live).get p.1 = some o0 := by
        rw [layH0_get]
        cases hx : findA p.1 m.live with
        | some x => exact ⟨x, rfl⟩
        | none =>
          exfalso
          have : ∀ {l : List (Nat × AObj)} {q : Nat × AObj}, q ∈ l → findA q.1 l ≠ none := by
            intro l
            induction l with
            | nil => intro q hq; cases hq
            | cons r s ih =>
              intro q hq
              unfold findA
              cases hb : Nat.beq r.1 q.1 with
              | true => intro hh; cases hh
              | false =>
                rcases List.mem_cons.1 hq with rfl | hq
                · rw [beq_true.2 rfl] at hb; cases hb
                · exact ih hq
          exact this h1 hx
      obtain ⟨o0, h4⟩ := this
      exact ⟨o0, h2.symm, h4⟩
    · have hc' : st.heap.get c = some o := h3.symm.trans hc
      have hF : (layF0 s0.fams m.fams).get f = some F := hF
      rw [layF0_get] at hF
      cases hx : findA f m.fams with
      | some x =>
        have := hi f (hm.fams _ (findA_mem hx)).1
        have := hnf c o _ hc' hf
        omega
      | none =>
        rw [hx] at hF
        obtain ⟨b, o0, h4, h5⟩ := Part.famcl h f F c o hF hc' hf
        refine ⟨b, o0, h4, ?_⟩
        show (layH0 s0.heap m.live).get b = some o0
        rw [layH0_get]
        cases hy : findA b m.live with
        | some y =>
          have := (hm.live _ (findA_mem hy)).1
          have := (h0.wf.dom b o0 h5).1
          omega
        | none => exact h5
theorem PT.base {s0 : St} (h0 : LowS s0) {st : St} (h : Has s0 st) : PT id s0 st := by
  have := h.part h0
  have e : shift s0.next st.next = tl id s0.next st.next := rfl
  unfold PT
  rw [← e]; exact this
/-- A call's answer, out of its run over what is known. -/
theorem PT.call {C : Ctx} (hC : CtxOk C) (hm : C.P.follows .mixedOrders = true) {f : FuncId} {fn : Func} {c : Code} (hf : C.P.funcs[f]? = some fn) (hb : fn.body = some c) {args : List AV} {τ : Nat → Nat} {s0 st : St} {m : Memo} (h0 : LowS s0) (hp : PT τ s0 st) {n : Nat} {L : List (Nat × Nat)}
    (hrun : memoOk s0 m (acallN C n f args s0) = some L) (hL : ∀ p ∈ L, p.1 = p.2) : SumOk C.P f (renL (tl τ s0.next st.next) args) st (ren (tl τ s0.next st.next) m.v) (addL (tl τ s0.next st.next) m st) :=
  memo_part hC hm hf hb h0.wf hp hrun hL
/-- A row that is known. -/
theorem PT.els {τ : Nat → Nat} {s0 st : St} (h : PT τ s0 st) (h0 : LowS s0) {b e z len hi room : Nat} {k : Kind} {c : Option Nat} {l : List (List AV)} (hb : s0.heap.get b = some (.cells ⟨e, z, setEls .nil 0 l, hi, room, k⟩)) (hlen : len = l.length) (hhi : hi = l.length) (hk : ∀ f, k = .opn f → ∃ F, s0.fams.get f = some F ∧ F.since ≤ b) :
    Els st (.slc (τ b) 0 len c) z (l.map (renL τ)) := by
  have hbl := h.blk h0.wf hb
  have hlo := h0.low b _ hb
  have hb0 := (h0.wf.dom b _ hb).1
  have hT : ∀ i, i < l.length → (T.map (renL (tl τ s0.next st.next)) (setEls .nil 0 l)).get i = (l.map (renL τ))[i]? := by
    intro i hi'
    rw [T.get_map, setEls_get, if_pos ⟨Nat.zero_le _, by omega⟩, Nat.sub_zero, List.getElem?_map]
    have hg : l[i]? = some l[i] := List.getElem?_eq_getElem hi'
    rw [hg]
    show some _ = some _
    simp only [lowO, Bool.and_eq_true] at hlo
    have hgl : ∀ (t : T (List AV)) (j : Nat) (x : List AV), lowT s0.next t = true → t.get j = some x → lowL s0.next x = true := by
      intro t
      induction t with
      | nil => intro j x _ hx; simp [T.get_nil] at hx
      | node a v r ih1 ih2 =>
        intro j x ht hx
        simp only [lowT, Bool.and_eq_true] at ht
        rw [T.get_node] at hx
        cases j with
        | zero => rw [show v = some x from hx] at ht; exact ht.2.1
        | succ j =>
          simp only at hx
          split at hx
          · exact ih1 _ _ ht.1 hx
          · exact ih2 _ _ ht.2.2 hx
    have := hgl _ i l[i] hlo.2 (by rw [setEls_get, if_pos ⟨Nat.zero_le _, by omega⟩, Nat.sub_zero, hg])
    exact congrArg some (lowL_cg (fun b hb => tl_lo hb) this)
  subst hlen
  have hren : renO (tl τ s0.next st.next) (.cells ⟨e, z, setEls .nil 0 l, hi, room, k⟩) = .cells ⟨e, z, T.map (renL (tl τ s0.next st.next)) (setEls .nil 0 l), hi, room, renK (tl τ s0.next st.next) k⟩ := rfl
  rw [hren] at hbl
  refine .inr ⟨τ b, c, _, by rw [List.length_map], hbl, ?_, rfl, by rw [List.length_map]; exact Nat.le_of_eq hhi.symm, fun i hi' => hT i (by rwa [List.length_map] at hi'), h.lt hb0, fun f hf => ?_⟩
  · unfold cellsOf
    rw [hbl]
    show seenBlk st (τ b) _ = _
    unfold seenBlk
    cases k with
    | ro => rfl
    | rw => rfl
    | opn f =>
      obtain ⟨F, h1, h2⟩ := hk f rfl
      have h3 := Part.fam h f F h1
      show (st.fams.get (tl τ s0.next st.next f)).bnd _ = _
      rw [h3]
      show cnd (Nat.ble (tl τ s0.next st.next F.since) (τ b)) _ _ = _
      have : tl τ s0.next st.next F.since ≤ tl τ s0.next st.next b := Part.le' h h2
      rw [tl_lo hb0] at this
      rw [ble_true.2 this]; rfl
  · cases k with
    | ro => cases hf
    | rw => cases hf
    | opn g =>
      have : Kind.opn (tl τ s0.next st.next g) = .opn f := hf
      obtain rfl := Kind.opn.inj this
      have := lowO_fam hlo (f := g) rfl
      rw [tl_lo this]; exact h.lt this
end Go.AE

namespace Go.AE
open Go Go.RowKit

/-- Every object of a tree, with its number (a * k + b at the place k). -/
noncomputable def allK (p : Nat → AObj → Bool) (t : T AObj) : Nat → Nat → Bool :=
  T.rec (motive := fun _ => Nat → Nat → Bool) (fun _ _ => true)
    (fun _ v _ gl gr a b => Option.rec (motive := fun _ => Bool) true (fun o => p b o) v && (gl (Nat.mul 2 a) (Nat.add a b) && gr (Nat.mul 2 a) (Nat.add (Nat.mul 2 a) b))) t
theorem allK_get {p : Nat → AObj → Bool} : ∀ (t : T AObj) (a b n : Nat) (o : AObj), allK p t a b = true → t.get n = some o → p (a * n + b) o = true
  | .nil, a, b, n, o, _, h => by rw [T.get_nil] at h; cases h
  | .node l v r, a, b, n, o, h, hg => by
    have h : ((Option.rec (motive := fun _ => Bool) true (fun o => p b o) v) && (allK p l (2 * a) (a + b) && allK p r (2 * a) (2 * a + b))) = true := h
    simp only [Bool.and_eq_true] at h
    rw [T.get_node] at hg
    cases n with
    | zero =>
      obtain rfl : v = some o := hg
      rw [Nat.mul_zero, Nat.zero_add]
      exact h.1
    | succ m =>
      simp only at hg
      split at hg
      · rename_i hm
        have := allK_get l (2 * a) (a + b) (m / 2) o h.2.1 hg
        have e : 2 * a * (m / 2) + (a + b) = a * (m + 1) + b := by
          have : m = 2 * (m / 2) := by omega
          generalize m / 2 = q at *
          subst this
          rw [Nat.mul_assoc, Nat.mul_left_comm, Nat.mul_add, Nat.mul_one]; omega
        rw [e] at this; exact this
      · rename_i hm
        have := allK_get r (2 * a) (2 * a + b) (m / 2) o h.2.2 hg
        have e : 2 * a * (m / 2) + (2 * a + b) = a * (m + 1) + b := by
          have : m = 2 * (m / 2) + 1 := by omega
          generalize m / 2 = q at *
          subst this
          rw [Nat.mul_assoc, Nat.mul_left_comm, Nat.mul_add, Nat.mul_add, Nat.mul_one, Nat.mul_comm 2 a]; omega
        rw [e] at this; exact this

/-- A state that is known: memos, the last one first, laid upon s0. -/
noncomputable def baseS (s0 : St) : List Memo → St
  | [] => s0
  | m :: r => addS m (baseS s0 r)
noncomputable def baseN (n : Nat) : List Memo → Nat
  | [] => n
  | m :: _ => m.n1
theorem baseN_eq (s0 : St) (l : List Memo) : (baseS s0 l).next = baseN s0.next l := by cases l <;> rfl
noncomputable def okL (n : Nat) : List Memo → Bool
  | [] => true
  | m :: r => m.okB (baseN n r) && okL n r
theorem okL_low {s0 : St} (h0 : LowS s0) : ∀ {l : List Memo}, okL s0.next l = true → LowS (baseS s0 l)
  | [], _ => h0
  | m :: r, h => by
    simp only [okL, Bool.and_eq_true] at h
    refine addS_low (okL_low h0 h.2) (Memo.okB_of ?_)
    rw [baseN_eq]; exact h.1
noncomputable def famKnown (f : Nat) : List Memo → Bool
  | [] => false
  | m :: r => hasK f m.fams || famKnown f r
noncomputable def blkKnown (b : Nat) : List Memo → Bool
  | [] => false
  | m :: r => hasK b m.live || blkKnown b r
noncomputable def metH (st : St) : List (Nat × AObj) → Bool
  | [] => true
  | p :: r => eqOO (st.heap.get p.1) (some p.2) && metH st r
noncomputable def metF (st : St) : List (Nat × Fam) → Bool
  | [] => true
  | p :: r => eqF (st.fams.get p.1) (some p.2) && metF st r
noncomputable def metL (st : St) : List Memo → Bool
  | [] => true
  | m :: r => metH st m.live && (metF st m.fams && metL st r)
noncomputable def kinB (l : List Memo) (c : Nat) (o : AObj) : Bool := match o.fam with
  | some f => !famKnown f l || blkKnown c l
  | none => true
/-- Is the state met again? The variables' block by its cells alone. -/
noncomputable def metB (t0 : T (List AV)) (l : List Memo) (st : St) : Bool :=
  Nat.ble (baseN 64 l) st.next && ((match st.heap.get 0 with | some (.cells ⟨_, 1, t, 256, 256, .ro⟩) => eqT t t0 | _ => false) && (metL st l && allK (kinB l) st.heap 1 0))

theorem metH_mem {st : St} : ∀ {l : List (Nat × AObj)}, metH st l = true → ∀ p ∈ l, st.heap.get p.1 = some p.2
  | [], _, p, hp => by cases hp
  | q :: r, h, p, hp => by
    simp only [metH, Bool.and_eq_true] at h
    rcases List.mem_cons.1 hp with rfl | hp
    · exact eqOO_eq h.1
    · exact metH_mem h.2 p hp
theorem metF_mem {st : St} : ∀ {l : List (Nat × Fam)}, metF st l = true → ∀ p ∈ l, st.fams.get p.1 = some p.2
  | [], _, p, hp => by cases hp
  | q :: r, h, p, hp => by
    simp only [metF, Bool.and_eq_true] at h
    rcases List.mem_cons.1 hp with rfl | hp
    · exact eqF_eq h.1
    · exact metF_mem h.2 p hp
theorem base_heap {s0 st : St} (h0 : ∀ b o, s0.heap.get b = some o → st.heap.get b = some o) : ∀ {l : List Memo}, metL st l = true → ∀ b o, (baseS s0 l).heap.get b = some o → st.heap.get b = some o
  | [], _, b, o, hb => h0 b o hb
  | m :: r, h, b, o, hb => by
    simp only [metL, Bool.and_eq_true] at h
    have hb : (layH0 (baseS s0 r).heap m.live).get b = some o := hb
    rw [layH0_get] at hb
    cases hx : findA b m.live with
    | some x =>
      rw [hx] at hb
      obtain rfl := Option.some.inj hb
      exact metH_mem h.1 _ (findA_mem hx)
    | none => rw [hx] at hb; exact base_heap h0 h.2.2 b o hb
theorem base_fams {s0 st : St} (h0 : ∀ b o, s0.fams.get b = some o → st.fams.get b = some o) : ∀ {l : List Memo}, metL st l = true → ∀ b o, (baseS s0 l).fams.get b = some o → st.fams.get b = some o
  | [], _, b, o, hb => h0 b o hb
  | m :: r, h, b, o, hb => by
    simp only [metL, Bool.and_eq_true] at h
    have hb : (layF0 (baseS s0 r).fams m.fams).get b = some o := hb
    rw [layF0_get] at hb
    cases hx : findA b m.fams with
    | some x =>
      rw [hx] at hb
      obtain rfl := Option.some.inj hb
      exact metF_mem h.2.1 _ (findA_mem hx)
    | none => rw [hx] at hb; exact base_fams h0 h.2.2 b o hb
theorem base_famK {s0 : St} (h0 : ∀ f, s0.fams.get f = none) : ∀ {l : List Memo} {f : Nat} {F : Fam}, (baseS s0 l).fams.get f = some F → famKnown f l = true
  | [], f, F, h => by rw [show (baseS s0 []).fams.get f = none from h0 f] at h; cases h
  | m :: r, f, F, h => by
    have hb : (layF0 (baseS s0 r).fams m.fams).get f = some F := h
    rw [layF0_get] at hb
    simp only [famKnown, Bool.or_eq_true]
    cases hx : findA f m.fams with
    | some x => exact .inl (hasK_of (findA_mem hx))
    | none => rw [hx] at hb; exact .inr (base_famK h0 hb)
theorem findA_some {α : Type} {k : Nat} : ∀ {l : List (Nat × α)}, hasK k l = true → ∃ x, findA k l = some x
  | [], h => by simp [hasK] at h
  | p :: r, h => by
    simp only [hasK, Bool.or_eq_true] at h
    unfold findA
    cases hb : Nat.beq p.1 k with
    | true => exact ⟨p.2, rfl⟩
    | false =>
      rcases h with h | h
      · rw [hb] at h; cases h
      · exact findA_some h
theorem base_blkK {s0 : St} : ∀ {l : List Memo} {b : Nat}, blkKnown b l = true → ∃ o, (baseS s0 l).heap.get b = some o
  | [], b, h => by simp [blkKnown] at h
  | m :: r, b, h => by
    simp only [blkKnown, Bool.or_eq_true] at h
    have e : (baseS s0 (m :: r)).heap.get b = (match findA b m.live with | some o => some o | none => (baseS s0 r).heap.get b) := layH0_get _
    rw [e]
    cases hx : findA b m.live with
    | some x => exact ⟨x, rfl⟩
    | none =>
      rcases h with h | h
      · obtain ⟨x, hy⟩ := findA_some h
        rw [hx] at hy; cases hy
      · exact base_blkK h
structure Entry where
  f : FuncId
  args : List AV
  base : List Memo
  m : Memo
/-- What the state is called that it stands upon: variables alone, of cells of the type e. -/
structure Var0 (s0 : TypeId → St) (t0 : T (List AV)) : Prop where
  low : ∀ e, LowS (s0 e)
  next : ∀ e, (s0 e).next = 64
  fams : ∀ e f, (s0 e).fams.get f = none
  heap : ∀ e b o, (s0 e).heap.get b = some o → b = 0 ∧ o = .cells ⟨e, 1, t0, 256, 256, .ro⟩
theorem met_pt {s0 : TypeId → St} {t0 : T (List AV)} (hv : Var0 s0 t0) {l : List Memo} (hl : okL 64 l = true) {st : St} (h : metB t0 l st = true) : ∃ e, PT id (baseS (s0 e) l) st := by
  simp only [metB, Bool.and_eq_true, ble_true] at h
  obtain ⟨h1, h2, h3, h4⟩ := h
  have hx : ∃ e, st.heap.get 0 = some (.cells ⟨e, 1, t0, 256, 256, .ro⟩) := by
    split at h2
    · rename_i e t hg
      rw [eqT_eq h2] at hg
      exact ⟨e, hg⟩
    · cases h2
  obtain ⟨e, he⟩ := hx
  have hlow : LowS (baseS (s0 e) l) := okL_low (hv.low e) (by rw [hv.next]; exact hl)
  refine ⟨e, PT.base hlow ⟨?_, base_heap (fun b o hb => ?_) h3, base_fams (fun f F hF => ?_) h3, fun f F c o hF hc hf => ?_⟩⟩
  · rw [baseN_eq, hv.next]; exact h1
  · obtain ⟨rfl, rfl⟩ := hv.heap e b o hb
    exact he
  · rw [hv.fams] at hF; cases hF
  · have hk := allK_get st.heap 1 0 c o h4 hc
    rw [Nat.one_mul, Nat.add_zero] at hk
    unfold kinB at hk
    rw [hf] at hk
    simp only [Bool.or_eq_true, Bool.not_eq_true'] at hk
    rcases hk with hk | hk
    · rw [base_famK (hv.fams e) hF] at hk; cases hk
    · exact base_blkK hk
noncomputable def Entry.ans (en : Entry) (st : St) : AV × St := (ren (tl id (baseN 64 en.base) st.next) en.m.v, addL (tl id (baseN 64 en.base) st.next) en.m st)
noncomputable def Entry.hit (t0 : T (List AV)) (en : Entry) (f : FuncId) (args : List AV) (st : St) : Bool := Nat.beq f en.f && (sameAL args en.args && metB t0 en.base st)
noncomputable def sumE (t0 : T (List AV)) : List Entry → FuncId → List AV → St → Option (AV × St)
  | [], _, _, _ => none
  | en :: r, f, args, st => cnd (en.hit t0 f args st) (some (en.ans st)) (sumE t0 r f args st)
structure Entry.Ok (P : Program) (s0 : TypeId → St) (en : Entry) : Prop where
  base : okL 64 en.base = true
  low : lowAs (baseN 64 en.base) en.args = true
  body : ∃ fn c, P.funcs[en.f]? = some fn ∧ fn.body = some c
  run : ∃ C : Ctx, C.P = P ∧ CtxOk C ∧ ∃ n, ∀ e, ∃ L, memoOk (baseS (s0 e) en.base) en.m (acallN C n en.f en.args (baseS (s0 e) en.base)) = some L ∧ ∀ p ∈ L, p.1 = p.2
theorem sumE_ok {P : Program} {s0 : TypeId → St} {t0 : T (List AV)} (hv : Var0 s0 t0) (hm : P.follows .mixedOrders = true) : ∀ {es : List Entry}, (∀ en ∈ es, en.Ok P s0) → ∀ f args st v st', sumE t0 es f args st = some (v, st') → SumOk P f args st v st'
  | [], _, f, args, st, v, st', h => by cases h
  | en :: r, hes, f, args, st, v, st', h => by
    rw [sumE] at h
    cases hh : en.hit t0 f args st with
    | false =>
      rw [hh] at h
      exact sumE_ok hv hm (fun x hx => hes x (by simp [hx])) f args st v st' h
    | true =>
      rw [hh] at h
      obtain ⟨rfl, rfl⟩ := Prod.mk.inj (Option.some.inj h)
      simp only [Entry.hit, Bool.and_eq_true] at hh
      obtain ⟨h1, h2, h3⟩ := hh
      obtain rfl := beq_true.1 h1
      obtain rfl := sameAL_eq h2
      have hen := hes en (by simp)
      obtain ⟨e, hp⟩ := met_pt hv hen.base h3
      obtain ⟨C, rfl, hC, n, hrun⟩ := hen.run
      obtain ⟨fn, c, hf, hb⟩ := hen.body
      obtain ⟨L, hL1, hL2⟩ := hrun e
      have hlow : LowS (baseS (s0 e) en.base) := okL_low (hv.low e) (by rw [hv.next]; exact hen.base)
      have := PT.call hC hm hf hb hlow hp hL1 hL2
      have hn : (baseS (s0 e) en.base).next = baseN 64 en.base := by rw [baseN_eq, hv.next]
      rw [hn] at this
      rw [lowAs_ren (σ := tl id (baseN 64 en.base) st.next) (n := baseN 64 en.base) (fun b hb => tl_lo hb) hen.low] at this
      exact this
end Go.AE
