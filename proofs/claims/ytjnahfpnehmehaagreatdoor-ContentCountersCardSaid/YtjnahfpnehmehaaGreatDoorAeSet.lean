/- The abstract evaluator at values that are not known: stores into rows that were grown. -/
import Derived.Test.YtjnahfpnehmehaaGreatDoorAeH
namespace Go.AE
open Go Go.RowKit

variable {P : Program} {ρ : Rho} {st : St}
noncomputable def stSet (st : St) (m f : Nat) (B : Blk) (i : Nat) (v : AV) (F : Fam) : St := (st.setObj m (.cells (B.setT (B.t.set i [v])))).setFam f (F.seen m)
theorem stSet_heap (st : St) (m f : Nat) (B : Blk) (i : Nat) (v : AV) (F : Fam) (k : Nat) : (stSet st m f B i v F).heap.get k = if k = m then some (.cells (B.setT (B.t.set i [v]))) else st.heap.get k := by
  obtain ⟨h, g, n⟩ := st
  exact T.get_set _ _ _ _
theorem stSet_fams (st : St) (m f : Nat) (B : Blk) (i : Nat) (v : AV) (F : Fam) (k : Nat) : (stSet st m f B i v F).fams.get k = if k = f then some (F.seen m) else st.fams.get k := by
  obtain ⟨h, g, n⟩ := st
  exact T.get_set _ _ _ _
theorem stSet_next (st : St) (m f : Nat) (B : Blk) (i : Nat) (v : AV) (F : Fam) : (stSet st m f B i v F).next = st.next := by
  obtain ⟨h, g, n⟩ := st
  rfl
/-- One element of a row is written. -/
theorem RowAt.store {m f e i : Nat} {l : List (List AV)} (h : RowAt st m f e 1 l) {a v : AV} (hi : l[i]? = some [a]) (hv : v.plain = true) {t : TypeId} {x y : Operand} (ht : sizeT P t = some 1) (hx : ρ x = some (.ptr m i)) (hy : ρ y = some v) {F : Fam} (hF : st.fams.get f = some F) (hm : Nat.beq F.mark 1 = false) :
    ∃ st', aopR P ρ st (.store t x y) = some (.tup [], st') ∧ RowAt st' m f e 1 (l.set i [v]) ∧ st'.next = st.next ∧ (∀ k, k ≠ m → st'.heap.get k = st.heap.get k) ∧ (∀ k, k ≠ f → st'.fams.get k = st.fams.get k) ∧ (∃ F', st'.fams.get f = some F' ∧ F'.mark = F.mark) ∧ ∀ c o g, st'.heap.get c = some o → o.fam = some g → st.heap.get c = some o ∨ g = f := by
  obtain ⟨tt, room, h1, h2⟩ := h.blk
  obtain ⟨tt', room', hcel, _⟩ := h.cells
  obtain ⟨rfl, rfl⟩ : tt' = tt ∧ room' = room := by
    have := (cellsOf_eq.1 hcel).1
    rw [h1] at this
    simp only [Option.some.injEq, AObj.cells.injEq, Blk.mk.injEq] at this
    exact ⟨this.2.2.1.symm, this.2.2.2.2.1.symm⟩
  obtain ⟨F0, h3, h4, h5⟩ := h.fam
  obtain rfl : F0 = F := Option.some.inj (h3.symm.trans hF)
  have hlt := (List.getElem?_eq_some_iff.1 hi).1
  have hv1 : v.cells = [v] := by cases v <;> first | rfl | cases hv
  have hel : Blk.el ⟨e, 1, tt', l.length, room', .opn f⟩ (Nat.div i 1) = some [a] := by
    unfold Blk.el
    show cnd (Nat.blt (i / 1) l.length) (tt'.get (i / 1)) none = _
    rw [Nat.div_one, blt_true.2 hlt, h2 i hlt, hi]; rfl
  have hst : Blk.store ⟨e, 1, tt', l.length, room', .opn f⟩ i [v] = some (Blk.setT ⟨e, 1, tt', l.length, room', .opn f⟩ (tt'.set i [v])) := by
    have hg : Nat.ble (Nat.add (Nat.mod i 1) [v].length) 1 = true := by
      show Nat.ble (i % 1 + 1) 1 = true
      rw [Nat.mod_one]; rfl
    unfold Blk.store
    simp only [hg, cond_true, hel, bnd_some]
    have hmod : Nat.mod i 1 = 0 := Nat.mod_one i
    have hdiv : Nat.div i 1 = i := Nat.div_one i
    rw [hmod, hdiv]
    rfl
  refine ⟨stSet st m f ⟨e, 1, tt', l.length, room', .opn f⟩ i v F0, ?_, ⟨⟨tt'.set i [v], room', ?_, fun k hk => ?_⟩, ⟨F0.seen m, ?_, ?_, ?_⟩⟩, stSet_next .., fun k hk => by rw [stSet_heap, if_neg hk], fun k hk => by rw [stSet_fams, if_neg hk], ⟨F0.seen m, by rw [stSet_fams, if_pos rfl], by cases F0; rfl⟩, fun c o g hc hg => ?_⟩
  · have hl1 : Nat.beq v.cells.length 1 = true := by rw [hv1]; rfl
    have hpl : ([v] : List AV).all AV.plain = true := by simp [hv]
    have hlv : (Nat.beq F0.live m && !Nat.beq F0.mark 1) = true := by rw [h4, beq_true.2 rfl, hm]; rfl
    simp only [aopR, hx, hy, bnd_some, oStore, storeVar, ht, cnd_true, hv1, storeCells, hpl, hcel, storeIn, hF, hlv, cond_true, hst]
    rfl
  · rw [stSet_heap, if_pos rfl, List.length_set]; rfl
  · rw [List.length_set] at hk
    rw [T.get_set, List.getElem?_set]
    by_cases e1 : k = i
    · rw [if_pos e1, if_pos e1.symm, if_pos hlt]
    · rw [if_neg e1, if_neg (fun h => e1 h.symm)]
      exact h2 k hk
  · rw [stSet_fams, if_pos rfl]
  · cases F0; exact h4
  · cases F0; exact Nat.le_refl m
  · rw [stSet_heap] at hc
    split at hc
    · obtain rfl := Option.some.inj hc
      exact .inr (Option.some.inj hg).symm
    · exact .inl hc
/-- What stands elsewhere is as it was. -/
theorem Ext.rowSet {st0 st st' : St} {m f : Nat} (h : Ext st0 st) (hm : st0.next ≤ m) (hf : st0.next ≤ f) (hfn : f < st.next) (hn : st'.next = st.next) (h1 : ∀ k, k ≠ m → st'.heap.get k = st.heap.get k) (h2 : ∀ k, k ≠ f → st'.fams.get k = st.fams.get k) (h3 : ∀ c o g, st'.heap.get c = some o → o.fam = some g → st.heap.get c = some o ∨ g = f) : Ext st0 st' := by
  refine ⟨by rw [hn]; exact h.nx, fun k hk => by rw [h1 k (by omega)]; exact h.heap k hk, fun k hk => by rw [h2 k (by omega)]; exact h.fams k hk, fun c o g hc hg hlt => ?_, fun c o g hc hg => ?_⟩
  · rcases h3 c o g hc hg with h4 | h4
    · exact h.nf c o g h4 hg hlt
    · omega
  · rcases h3 c o g hc hg with h4 | h4
    · exact (h.bf c o g h4 hg).imp id fun q => by rw [hn]; exact q
    · right; rw [hn, h4]; exact hfn
end Go.AE
