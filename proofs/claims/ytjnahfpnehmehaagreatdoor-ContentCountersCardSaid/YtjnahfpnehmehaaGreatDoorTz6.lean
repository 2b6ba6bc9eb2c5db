/- The state behind an argument that is a slice of plain values: its elements stand in a row that is only read. -/
import Derived.Test.YtjnahfpnehmehaaGreatDoorTz4
import Derived.Test.YtjnahfpnehmehaaGreatDoorTz5
import Derived.Test.YtjnahfpnehmehaaGreatDoorAeH
namespace Go.Proofs.Tz
open Go Go.AE Go.RowKit Go.Proofs Go.Proofs.YtjnahfpnehmehaaGreatDoor
set_option maxRecDepth 100000

noncomputable def embA (a : Addr) : Emb := fun b => if b < 64 then ⟨b, 0, 0, 1⟩ else if b = 64 then ⟨a.block, a.off, 0, 1⟩ else ⟨0, 0, 0, 0⟩
noncomputable def argO (et : TypeId) (l : List AV) : AObj := .cells ⟨et, 1, setEls .nil 0 (l.map fun v => [v]), l.length, l.length, .ro⟩
/-- The variables, and at 64 an argument's elements. -/
noncomputable def stA (e et : TypeId) (l : List AV) : St := ⟨(stG e).heap.set 64 (argO et l), .nil, 65⟩
theorem stA_get (e et : TypeId) (l : List AV) (b : Nat) : (stA e et l).heap.get b = if b = 64 then some (argO et l) else if b = 0 then some (.cells ⟨e, 1, spaceT, 256, 256, .ro⟩) else none := by
  show ((stG e).heap.set 64 _).get b = _
  rw [T.get_set, stG_get]
theorem stA_cases {e et : TypeId} {l : List AV} {b : Nat} {o : AObj} (h : (stA e et l).heap.get b = some o) : (b = 64 ∧ o = argO et l) ∨ (b = 0 ∧ o = .cells ⟨e, 1, spaceT, 256, 256, .ro⟩) := by
  rw [stA_get] at h
  by_cases e1 : b = 64
  · rw [if_pos e1] at h; exact .inl ⟨e1, (Option.some.inj h).symm⟩
  · rw [if_neg e1] at h
    by_cases e2 : b = 0
    · rw [if_pos e2] at h; exact .inr ⟨e2, (Option.some.inj h).symm⟩
    · rw [if_neg e2] at h; cases h
theorem add_is {a : Addr} (h : a.spot = none) (i : Nat) : a.add i = ⟨a.block, a.off + i, none⟩ := by
  obtain ⟨b, o, s⟩ := a
  have : s = none := h
  subst this
  unfold Addr.add
  by_cases e : i = 0
  · subst e; rfl
  · rw [if_neg e]
theorem cell_is {W : World} {a : Addr} {c : Array Value} {et : TypeId} {fz : Nat × Nat} (h : a.spot = none) (hA : W.heap[a.block]? = some (.cells c et fz)) (i : Nat) : W.cell? (a.add i) = c[a.off + i]? := by
  rw [add_is h]
  unfold World.cell?
  rw [show W.heap[(⟨a.block, a.off + i, none⟩ : Addr).block]? = some (.cells c et fz) from hA]
  rfl
theorem start_win {W : World} (h : laidMetH Tryz.prog laidList W) {a : Addr} (hsp : a.spot = none) {l : List AV} (hl : l ≠ []) (hcell : ∀ i v, l[i]? = some v → ∃ u, W.cell? (a.add i) = some u ∧ ∀ φ, conc φ v = u) (hne : ∀ z, W.cell? (a.add 0) ≠ some (.int .u8 z)) : ∃ e et, Sim W.heap.size (embA a) (stA e et l) W := by
  have ht := space_is h
  unfold Lib.TabIs World.var? at ht
  have hg : Tryz.prog.globalNamed "strings.asciiSpace" = some 0 := by kernel_rfl
  rw [hg] at ht
  simp only [Option.bind_some] at ht
  split at ht
  · rename_i cs e fz hO
    obtain rfl := Option.some.inj ht
    have h0 : 0 < W.heap.size := (Array.getElem?_eq_some_iff.1 hO).1
    obtain ⟨v0, hv0⟩ : ∃ v, l[0]? = some v := by
      cases l with
      | nil => exact absurd rfl hl
      | cons v r => exact ⟨v, rfl⟩
    obtain ⟨c, et, fz2, hA⟩ : ∃ c et fz2, W.heap[a.block]? = some (.cells c et fz2) := by
      obtain ⟨u, hu, _⟩ := hcell 0 v0 hv0
      rw [add_is hsp] at hu
      unfold World.cell? at hu
      split at hu
      · rename_i c et fz2 hA
        exact ⟨c, et, fz2, hA⟩
      · cases hu
    have hc : ∀ i v, l[i]? = some v → ∃ u, c[a.off + i]? = some u ∧ ∀ φ, conc φ v = u := by
      intro i v hv
      obtain ⟨u, hu, hr⟩ := hcell i v hv
      rw [cell_is hsp hA] at hu
      exact ⟨u, hu, hr⟩
    have hsz : a.off + l.length ≤ c.size := by
      have hlen : 1 ≤ l.length := by
        cases l with
        | nil => exact absurd rfl hl
        | cons v r => simp
      obtain ⟨u, hu, _⟩ := hc (l.length - 1) l[l.length - 1] (List.getElem?_eq_getElem (by omega))
      have := (Array.getElem?_eq_some_iff.1 hu).1
      omega
    have hblk : a.block ≠ 0 := by
      intro e0
      have hA' : W.heap[0]? = some (.cells c et fz2) := by rw [← e0]; exact hA
      rw [hO] at hA'
      obtain ⟨u, hu, _⟩ := hc 0 v0 hv0
      obtain ⟨rfl, _, _⟩ := Obj.cells.inj (Option.some.inj hA')
      have hz : ∃ z, u = .int .u8 z := by
        have hu' : (Array.mk (spaceZ.map fun z => Value.int .u8 z))[a.off + 0]? = some u := hu
        simp only [List.getElem?_toArray, List.getElem?_map, Option.map_eq_some_iff] at hu'
        obtain ⟨z, _, hz⟩ := hu'
        exact ⟨z, hz.symm⟩
      obtain ⟨z, rfl⟩ := hz
      refine hne z ?_
      rw [cell_is hsp hA]
      exact hu
    have hlen := spaceLen
    refine ⟨e, et, ⟨show 64 ≤ 65 by decide, fun g hg => by unfold embA; rw [if_pos hg]; exact ⟨rfl, rfl⟩, fun g hg => by unfold embA; rw [if_pos hg]; exact Nat.one_ne_zero⟩, Nat.le_refl _, ?_, ?_, ?_, ?_, ?_, ?_, ?_, ?_⟩
    · intro b o f hb hf
      rcases stA_cases hb with ⟨rfl, rfl⟩ | ⟨rfl, rfl⟩ <;> cases hf
    · intro b o hb
      rcases stA_cases hb with ⟨rfl, rfl⟩ | ⟨rfl, rfl⟩
      · show 64 < 65; decide
      · show 0 < 65; decide
    · intro b o hb
      rcases stA_cases hb with ⟨rfl, rfl⟩ | ⟨rfl, rfl⟩
      · exact (Array.getElem?_eq_some_iff.1 hA).1
      · exact h0
    · intro b o hb hw
      rcases stA_cases hb with ⟨rfl, rfl⟩ | ⟨rfl, rfl⟩ <;> cases hw
    · intro b b' o o' hb hb' he
      rcases stA_cases hb with ⟨rfl, rfl⟩ | ⟨rfl, rfl⟩ <;> rcases stA_cases hb' with ⟨rfl, rfl⟩ | ⟨rfl, rfl⟩
      · exact .inl rfl
      · exact absurd he hblk
      · exact absurd he.symm hblk
      · exact .inl rfl
    · intro b o hb _
      rcases stA_cases hb with ⟨rfl, rfl⟩ | ⟨rfl, rfl⟩
      · refine ⟨c, fz2, hA, rfl, Nat.le_refl 1, fun i hi => ?_, ?_⟩
        · have hi : i < l.length := hi
          refine ⟨[l[i]], ?_, rfl, fun r x hr => ?_⟩
          · show (setEls .nil 0 _).get i = _
            rw [setEls_get, if_pos ⟨Nat.zero_le _, by rw [List.length_map]; omega⟩]
            simp [hi]
          · have hr0 : r = 0 := by
              cases r with
              | zero => rfl
              | succ r => simp at hr
            subst hr0
            simp only [List.getElem?_cons_zero, Option.some.injEq] at hr
            subst hr
            obtain ⟨u, hu, hφ⟩ := hc i l[i] (List.getElem?_eq_getElem hi)
            refine ⟨u, ?_, fun φ' _ => hφ φ'⟩
            show c[a.off + (i * 1 + 0)]? = some u
            rw [Nat.mul_one]; exact hu
        · show a.off + l.length * 1 ≤ c.size
          omega
      · refine ⟨_, fz, hO, rfl, Nat.le_refl 1, fun i hi => ?_, ?_⟩
        · have hi : i < 256 := hi
          have hz : i < spaceZ.length := by omega
          refine ⟨[AV.int .u8 spaceZ[i]], ?_, rfl, fun r x hr => ?_⟩
          · show (setEls .nil 0 _).get i = _
            rw [spaceEls, setEls_get]
            rw [if_pos ⟨Nat.zero_le _, by rw [List.length_map]; omega⟩]
            simp [hz]
          · have hr0 : r = 0 := by
              cases r with
              | zero => rfl
              | succ r => simp at hr
            subst hr0
            simp only [List.getElem?_cons_zero, Option.some.injEq] at hr
            subst hr
            refine ⟨.int .u8 spaceZ[i], ?_, Rep.closed fun _ => rfl⟩
            show (Array.mk (spaceZ.map fun z => Value.int .u8 z))[0 + (i * 1 + 0)]? = _
            simp [hz]
        · show 0 + 256 * 1 ≤ (Array.mk (spaceZ.map fun z => Value.int .u8 z)).size
          simp [hlen]
    · intro f F hF
      cases hF
    · intro b o hb
      rcases stA_cases hb with ⟨rfl, rfl⟩ | ⟨rfl, rfl⟩
      · show ((1 : Nat) ≠ 0); decide
      · show ((1 : Nat) ≠ 0); decide
  · cases ht
/-- An answer at an argument that is a slice. -/
def AnswersA (sum : FuncId → List AV → St → Option (AV × St)) (f : FuncId) (args : List AV) (l : List AV) : Prop := ∀ e et, ∃ n st', acallN (CS sum) n f args (stA e et l) = some (.bool true, st')
theorem law_callsA {sum : FuncId → List AV → St → Option (AV × St)} (hsum : ∀ f args st v st', sum f args st = some (v, st') → SumOk Tryz.prog f args st v st') {f : FuncId} {fn : Func} {c : Code} (hf : Tryz.prog.funcs[f]? = some fn) (hb : fn.body = some c)
    {a : Addr} (hsp : a.spot = none) {l : List AV} (hl : l ≠ []) {args : List AV} {us : List Value} (hargs : RepL 65 (embA a) args us) (h : AnswersA sum f args l) {W : World} (hL : laidMetH Tryz.prog laidList W) (hcell : ∀ i v, l[i]? = some v → ∃ u, W.cell? (a.add i) = some u ∧ ∀ φ, conc φ v = u) (hne : ∀ z, W.cell? (a.add 0) ≠ some (.int .u8 z)) :
    Calls Tryz.prog f us.toArray W fun r W' => r = .returned (.bool true) ∧ Below W.heap.size W W' := by
  obtain ⟨e, et, hs⟩ := start_win hL hsp hl hcell hne
  obtain ⟨n, st', hn⟩ := h e et
  have hC := ctxOk hsum
  refine (callsIn_wide (n := 0)).1 (acall_callsIn hC (aexec_sound hC mixed n) hf hb hn hs hargs fun φ' w' u hp hu => ⟨?_, post_below hp hs⟩)
  rw [← hu.now]
  rfl
/-- The argument itself. -/
theorem rep_win {a : Addr} (hsp : a.spot = none) (len cap : Nat) : Rep 65 (embA a) (.slc 64 0 len (some cap)) (.slice (some a) len cap) := by
  intro φ' h
  have h64 := h 64 (by decide) (by show (1 : Nat) ≠ 0; decide)
  show Value.slice (some (caddr φ' 64 0)) len cap = _
  have : caddr φ' 64 0 = a := by
    unfold caddr
    rw [h64]
    obtain ⟨b, o, s⟩ := a
    have : s = none := hsp
    subst this
    rfl
  rw [this]
/-- What is known of the state. -/
theorem stA_els (e et : TypeId) (l : List AV) (cap : Nat) : Els (stA e et l) (.slc 64 0 l.length (some cap)) 1 (l.map fun v => [v]) := by
  have hg : (stA e et l).heap.get 64 = some (argO et l) := by rw [stA_get, if_pos rfl]
  refine .inr ⟨64, _, _, by rw [List.length_map], hg, ?_, rfl, by rw [List.length_map]; exact Nat.le_refl _, fun i hi => ?_, show 64 < 65 by decide, fun f hf => by cases hf⟩
  · unfold cellsOf
    rw [hg]; rfl
  · show (setEls .nil 0 _).get i = _
    rw [setEls_get, if_pos ⟨Nat.zero_le _, by omega⟩, Nat.sub_zero]
end Go.Proofs.Tz
