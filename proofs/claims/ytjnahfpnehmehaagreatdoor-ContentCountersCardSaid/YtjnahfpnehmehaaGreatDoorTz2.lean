/- From the evaluator to the calls that a row asks for. -/
import Derived.Test.YtjnahfpnehmehaaGreatDoorTz1
import Derived.Stop.LaidErr
import Derived.MakeChecks
import Derived.Carry
namespace Go.Proofs.Tz
open Go Go.AE Go.RowKit Go.Proofs Go.Proofs.YtjnahfpnehmehaaGreatDoor
set_option maxRecDepth 100000

noncomputable def emb0 : Emb := fun b => if b < 64 then ⟨b, 0, 0, 1⟩ else ⟨0, 0, 0, 0⟩
/-- The row's list of variables. -/
def laidList : List (String × DataW Unit) := Rows.contentCutsRow.laid
theorem space_is {W : World} (h : laidMetH Tryz.prog laidList W) : Lib.TabIs Tryz.prog W "strings.asciiSpace" .u8 spaceZ := by
  rw [MakeChecks.laidMetH_plain _ _ _ (by kernel_rfl)] at h
  have h2 := (laidMet.tail (laidMet.tail h))
  have h3 : laidMet Tryz.prog (("strings.asciiSpace", Lib.tabData .u8 spaceZ) :: [("unicode.CaseRanges", Rows.laid_unicode_CaseRanges), ("unicode/utf8.first", Rows.laid_unicode_utf8_first)]) W := by
    rw [← spaceLaid]; exact h2
  exact Lib.tabIs_of_head (g := 0) (t := 171) (e := 5) (n := 256) (by kernel_rfl) (by kernel_rfl) (by kernel_rfl) (by kernel_rfl) (by kernel_rfl) (by kernel_rfl) h3
theorem stG_get (e : TypeId) (b : Nat) : (stG e).heap.get b = if b = 0 then some (.cells ⟨e, 1, spaceT, 256, 256, .ro⟩) else none := by
  show (T.nil.set 0 _).get b = _
  rw [T.get_set]
  split
  · rfl
  · rfl
theorem start_sim {W : World} (h : laidMetH Tryz.prog laidList W) : ∃ e, Sim W.heap.size emb0 (stG e) W := by
  have ht := space_is h
  unfold Lib.TabIs World.var? at ht
  have hg : Tryz.prog.globalNamed "strings.asciiSpace" = some 0 := by kernel_rfl
  rw [hg] at ht
  simp only [Option.bind_some] at ht
  split at ht
  · rename_i cs e fz hO
    obtain rfl := Option.some.inj ht
    refine ⟨e, ?_⟩
    have h0 : 0 < W.heap.size := (Array.getElem?_eq_some_iff.1 hO).1
    have hget : ∀ b o, (stG e).heap.get b = some o → b = 0 ∧ o = .cells ⟨e, 1, spaceT, 256, 256, .ro⟩ := by
      intro b o hb
      rw [stG_get] at hb
      by_cases e1 : b = 0
      · rw [if_pos e1] at hb; exact ⟨e1, (Option.some.inj hb).symm⟩
      · rw [if_neg e1] at hb; cases hb
    have hlen := spaceLen
    refine ⟨⟨Nat.le_refl 64, fun g hg => by unfold emb0; rw [if_pos hg]; exact ⟨rfl, rfl⟩, fun g hg => by unfold emb0; rw [if_pos hg]; exact Nat.one_ne_zero⟩, Nat.le_refl _, ?_, ?_, ?_, ?_, ?_, ?_, ?_, ?_⟩
    · intro b o f hb hf
      obtain ⟨rfl, rfl⟩ := hget b o hb
      cases hf
    · intro b o hb
      obtain ⟨rfl, rfl⟩ := hget b o hb
      show 0 < 64
      decide
    · intro b o hb
      obtain ⟨rfl, rfl⟩ := hget b o hb
      exact h0
    · intro b o hb hw
      obtain ⟨rfl, rfl⟩ := hget b o hb
      cases hw
    · intro b b' o o' hb hb' _
      obtain ⟨rfl, rfl⟩ := hget b o hb
      obtain ⟨rfl, rfl⟩ := hget b' o' hb'
      exact .inl rfl
    · intro b o hb _
      obtain ⟨rfl, rfl⟩ := hget b o hb
      refine ⟨_, fz, hO, rfl, Nat.le_refl 1, fun i hi => ?_, ?_⟩
      · have hi : i < 256 := hi
        have hz : i < spaceZ.length := by omega
        refine ⟨[AV.int .u8 spaceZ[i]], ?_, rfl, fun r a hr => ?_⟩
        · show (setEls .nil 0 _).get i = _
          rw [spaceEls, setEls_get]
          rw [if_pos ⟨Nat.zero_le _, by rw [List.length_map]; omega⟩]
          simp [hz]
        · have hr0 : r = 0 := by
            cases r with
            | zero => rfl
            | succ r => simp at hr
          subst hr0
          simp only [List.getElem?_cons_zero, Option.some.injEq] at hr
          subst hr
          refine ⟨.int .u8 spaceZ[i], ?_, Rep.closed fun _ => rfl⟩
          show (Array.mk (spaceZ.map fun z => Value.int .u8 z))[0 + (i * 1 + 0)]? = _
          simp [hz]
      · show 0 + 256 * 1 ≤ (Array.mk (spaceZ.map fun z => Value.int .u8 z)).size
        simp [hlen]
    · intro f F hF
      cases hF
    · intro b o hb
      obtain ⟨rfl, rfl⟩ := hget b o hb
      decide
  · cases ht

/-- A call that the evaluator answers. -/
theorem acall_callsIn {C : Ctx} (hC : CtxOk C) {ex : Exec} (hex : ExOk C.P ex) {f : FuncId} {fn : Func} {c : Code} (hf : C.P.funcs[f]? = some fn) (hb : fn.body = some c) {args : List AV} {us : List Value} {v : AV} {st st' : St} {B0 : Nat} {φ : Emb} {w : World}
    (h : acall C ex f args st = some (v, st')) (hs : Sim B0 φ st w) (hr : RepL st.next φ args us) {R : Ending → World → Prop}
    (hR : ∀ φ' w' u, Post B0 φ st w φ' st' w' → Rep st'.next φ' v u → R (.returned u) w') : CallsIn Fence.wide 0 C.P f us.toArray w R := by
  unfold acall at h
  split at h
  · rename_i r hsum
    obtain rfl := Option.some.inj h
    exact (hC.sum f args _ _ _ hsum).2 B0 φ w us R hs hr hR
  · simp only [bnd_eq, nth_eq] at h
    obtain ⟨fn', hf', h⟩ := h
    have hf'' : C.P.funcs[f]? = some fn' := by simpa using hf'
    obtain rfl := Option.some.inj (hf.symm.trans hf'')
    unfold callF at h
    rw [hb] at h
    exact enter_ok hex hf hb h hs hr hR
/-- A post below what was there. -/
theorem post_below {φ : Emb} {st st' : St} {w w' : World} {φ' : Emb} (h : Post w.heap.size φ st w φ' st' w') (hs : Sim w.heap.size φ st w) : Below w.heap.size w w' :=
  ⟨h.os, h.tape, h.output, h.size, fun k hk => h.keep k hk fun b o hb hw he => by have := hs.low b o hb hw; omega⟩
theorem law_calls {sum : FuncId → List AV → St → Option (AV × St)} (hsum : ∀ f args st v st', sum f args st = some (v, st') → SumOk Tryz.prog f args st v st') {f : FuncId} {fn : Func} {c : Code} (hf : Tryz.prog.funcs[f]? = some fn) (hb : fn.body = some c)
    {args : List AV} {us : List Value} (hargs : ∀ n φ, RepL n φ args us) (h : ∀ e, ∃ n st', acallN (CS sum) n f args (stG e) = some (.bool true, st')) {W : World} (hL : laidMetH Tryz.prog laidList W) :
    Calls Tryz.prog f us.toArray W fun r W' => r = .returned (.bool true) ∧ Below W.heap.size W W' := by
  obtain ⟨e, hs⟩ := start_sim hL
  obtain ⟨n, st', hn⟩ := h e
  have hC := ctxOk hsum
  refine (callsIn_wide (n := 0)).1 (acall_callsIn hC (aexec_sound hC mixed n) hf hb hn hs (hargs _ _) fun φ' w' u hp hu => ⟨?_, post_below hp hs⟩)
  rw [← hu.now]
  rfl
end Go.Proofs.Tz
