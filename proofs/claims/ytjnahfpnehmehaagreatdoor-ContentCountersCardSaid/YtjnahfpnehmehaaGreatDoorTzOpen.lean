/- Arguments that are slices of whole numbers: none, empty ones, and others. -/
import Derived.Test.YtjnahfpnehmehaaGreatDoorTz6
import Derived.Test.YtjnahfpnehmehaaGreatDoorLetBase
import Derived.Test.YtjnahfpnehmehaaGreatDoorCnt2
import Derived.Test.YtjnahfpnehmehaaGreatDoorCards
import Derived.Test.YtjnahfpnehmehaaGreatDoorTie
import Derived.Deep.Slices
namespace Go.Proofs.Tz
open Go Go.AE Go.RowKit Go.Proofs Go.Proofs.YtjnahfpnehmehaaGreatDoor Go.ChangeShapes Go.WideShapes Go.ChangeAt Go.Deep
set_option maxRecDepth 100000

/-- The variables, and a number for an empty slice's place. -/
noncomputable def stB (e : TypeId) : St := ⟨(stG e).heap, .nil, 65⟩
theorem stB_get (e : TypeId) (b : Nat) : (stB e).heap.get b = if b = 0 then some (.cells ⟨e, 1, spaceT, 256, 256, .ro⟩) else none := stG_get e b
theorem start_emp {W : World} (h : laidMetH Tryz.prog laidList W) (a : Addr) : ∃ e, Sim W.heap.size (embA a) (stB e) W := by
  have ht := space_is h
  unfold Lib.TabIs World.var? at ht
  have hg : Tryz.prog.globalNamed "strings.asciiSpace" = some 0 := by kernel_rfl
  rw [hg] at ht
  simp only [Option.bind_some] at ht
  split at ht
  · rename_i cs e fz hO
    obtain rfl := Option.some.inj ht
    refine ⟨e, ?_⟩
    have h0 : 0 < W.heap.size := (Array.getElem?_eq_some_iff.1 hO).1
    have hget : ∀ b o, (stB e).heap.get b = some o → b = 0 ∧ o = .cells ⟨e, 1, spaceT, 256, 256, .ro⟩ := by
      intro b o hb
      rw [stB_get] at hb
      by_cases e1 : b = 0
      · rw [if_pos e1] at hb; exact ⟨e1, (Option.some.inj hb).symm⟩
      · rw [if_neg e1] at hb; cases hb
    have hlen := spaceLen
    refine ⟨⟨show 64 ≤ 65 by decide, fun g hg => by unfold embA; rw [if_pos hg]; exact ⟨rfl, rfl⟩, fun g hg => by unfold embA; rw [if_pos hg]; exact Nat.one_ne_zero⟩, Nat.le_refl _, ?_, ?_, ?_, ?_, ?_, ?_, ?_, ?_⟩
    · intro b o f hb hf
      obtain ⟨rfl, rfl⟩ := hget b o hb
      cases hf
    · intro b o hb
      obtain ⟨rfl, rfl⟩ := hget b o hb
      show 0 < 65
      decide
    · intro b o hb
      obtain ⟨rfl, rfl⟩ := hget b o hb
      exact h0
    · intro b o hb hw
      obtain ⟨rfl, rfl⟩ := hget b o hb
      cases hw
    · intro b b' o o' hb hb' _
      obtain ⟨rfl, rfl⟩ := hget b o hb
      obtain ⟨rfl, rfl⟩ := hget b' o' hb'
      exact .inl rfl
    · intro b o hb _
      obtain ⟨rfl, rfl⟩ := hget b o hb
      refine ⟨_, fz, hO, rfl, Nat.le_refl 1, fun i hi => ?_, ?_⟩
      · have hi : i < 256 := hi
        have hz : i < spaceZ.length := by omega
        refine ⟨[AV.int .u8 spaceZ[i]], ?_, rfl, fun r a hr => ?_⟩
        · show (setEls .nil 0 _).get i = _
          rw [spaceEls, setEls_get]
          rw [if_pos ⟨Nat.zero_le _, by rw [List.length_map]; omega⟩]
          simp [hz]
        · have hr0 : r = 0 := by
            cases r with
            | zero => rfl
            | succ r => simp at hr
          subst hr0
          simp only [List.getElem?_cons_zero, Option.some.injEq] at hr
          subst hr
          refine ⟨.int .u8 spaceZ[i], ?_, Rep.closed fun _ => rfl⟩
          show (Array.mk (spaceZ.map fun z => Value.int .u8 z))[0 + (i * 1 + 0)]? = _
          simp [hz]
      · show 0 + 256 * 1 ≤ (Array.mk (spaceZ.map fun z => Value.int .u8 z)).size
        simp [hlen]
    · intro f F hF
      cases hF
    · intro b o hb
      obtain ⟨rfl, rfl⟩ := hget b o hb
      show ((1 : Nat) ≠ 0); decide
  · cases ht

/-- An answer at an argument that is an empty slice. -/
def AnswersE (sum : FuncId → List AV → St → Option (AV × St)) (f : FuncId) (args : List AV) : Prop := ∀ e, ∃ n st', acallN (CS sum) n f args (stB e) = some (.bool true, st')
theorem law_callsE {sum : FuncId → List AV → St → Option (AV × St)} (hsum : ∀ f args st v st', sum f args st = some (v, st') → SumOk Tryz.prog f args st v st') {f : FuncId} {fn : Func} {c : Code} (hf : Tryz.prog.funcs[f]? = some fn) (hb : fn.body = some c)
    {a : Addr} {args : List AV} {us : List Value} (hargs : RepL 65 (embA a) args us) (h : AnswersE sum f args) {W : World} (hL : laidMetH Tryz.prog laidList W) :
    Calls Tryz.prog f us.toArray W fun r W' => r = .returned (.bool true) ∧ Below W.heap.size W W' := by
  obtain ⟨e, hs⟩ := start_emp hL a
  obtain ⟨n, st', hn⟩ := h e
  have hC := ctxOk hsum
  refine (callsIn_wide (n := 0)).1 (acall_callsIn hC (aexec_sound hC mixed n) hf hb hn hs hargs fun φ' w' u hp hu => ⟨?_, post_below hp hs⟩)
  rw [← hu.now]
  rfl
/-- What is known of these states. -/
theorem stA_has (e et : TypeId) (l : List AV) : PT id (stG e) (stA e et l) := PT.base (stG_low e) ⟨show 64 ≤ 65 by decide, (fun b o hb => by
  rw [stG_get] at hb
  rw [stA_get]
  by_cases e0 : b = 0
  · rw [if_pos e0] at hb
    rw [if_neg (by omega), if_pos e0]; exact hb
  · rw [if_neg e0] at hb; cases hb), (fun f F hF => by cases hF), fun f F c o hF _ _ => by cases hF⟩
theorem stB_has (e : TypeId) : PT id (stG e) (stB e) := PT.base (stG_low e) ⟨show 64 ≤ 65 by decide, fun _ _ h => h, (fun f F hF => by cases hF), fun f F c o hF _ _ => by cases hF⟩
theorem stA_nf (e et : TypeId) (l : List AV) : NF (stA e et l) := fun c o f hc hf => by
  rcases stA_cases hc with ⟨rfl, rfl⟩ | ⟨rfl, rfl⟩ <;> cases hf
theorem stB_nf (e : TypeId) : NF (stB e) := fun c o f hc hf => by
  rw [stB_get] at hc
  by_cases e0 : c = 0
  · rw [if_pos e0] at hc
    obtain rfl := Option.some.inj hc
    cases hf
  · rw [if_neg e0] at hc; cases hc
theorem stA_knows (e et : TypeId) (l : List AV) : KnowsG (stA e et l) := ⟨e, fun b o hb => by
  rw [stG_get] at hb
  rw [stA_get]
  by_cases e0 : b = 0
  · rw [if_pos e0] at hb
    rw [if_neg (by omega), if_pos e0]; exact hb
  · rw [if_neg e0] at hb; cases hb⟩
theorem stB_knows (e : TypeId) : KnowsG (stB e) := ⟨e, fun _ _ h => h⟩
/-- A slice of whole numbers, opened. -/
theorem open_ints {H : Type} {enc : TypeId × Value → H} {W : World} {base : Nat} {v : Value} {d : DataW H} {p : List MemPlace} (hval : Value.okWide Tryz.prog W .any base 55 v) (h : DataW.Trod enc Tryz.prog W 0 (fun _ => true) true 55 v d p) :
    v = .slice none 0 0 ∨ ∃ (a : Addr) (l : List Int) (cap : Nat), v = .slice (some a) l.length cap ∧ a.spot = none ∧ (∀ n ∈ l, (Lit.int .i64 n).wf = true) ∧ ∀ i n, l[i]? = some n → W.cell? (a.add i) = some (.int .i64 n) := by
  obtain ⟨fuel, h⟩ := h
  obtain ⟨a0, len, cap, rfl⟩ := okWide_slice Tryz.underlying55 hval
  have hcs : (Value.slice a0 len cap).cells.toList = [.slice a0 len cap] := rfl
  rw [hcs] at h
  rcases open_slice1 Tryz.underlying55 (show Tryz.prog.cellsOf 3 = 1 by kernel_rfl) h with ⟨h1, _⟩ | ⟨a, len', cap', m, n, V, D, Pl, h1, _, hl, _, hm, _, hV⟩
  · exact .inl (List.singleton_inj.1 h1)
  · obtain ⟨rfl, rfl, rfl⟩ := Value.slice.inj (List.singleton_inj.1 h1)
    rw [if_pos rfl] at hm
    have hsp : a.spot = none := by
      have hv := hval
      unfold Value.okWide at hv
      rw [Tryz.underlying55] at hv
      have hv2 : Cell.okWide Tryz.prog W .any base 55 (.slice (some a) len cap) := hv
      unfold Cell.okWide at hv2
      rw [Tryz.underlying55] at hv2
      have hv3 : Cell.ok Tryz.prog W .any base 55 (.slice (some a) len cap) := hv2
      unfold Cell.ok at hv3
      rw [Tryz.underlying55] at hv3
      exact hv3.2.2.2.1
    have hi : ∀ i, i < len → ∃ k : Int, W.cell? (a.add i) = some (.int .i64 k) ∧ (Lit.int .i64 k).wf = true := by
      intro i hi
      obtain ⟨k1, k2⟩ := hV i (by omega)
      obtain ⟨z, k3, _, k4⟩ := DataW.trod_int Tryz.underlying3 k2
      rw [List.singleton_inj.1 k3] at k1
      exact ⟨z, k1, k4⟩
    refine .inr ⟨a, (List.range len).map fun i => if hi' : i < len then (hi i hi').choose else 0, cap, by rw [List.length_map, List.length_range], hsp, fun k hk => ?_, fun i k hk => ?_⟩
    · obtain ⟨i, hi1, rfl⟩ := List.mem_map.1 hk
      have hlt := List.mem_range.1 hi1
      rw [dif_pos hlt]
      exact (hi i hlt).choose_spec.2
    · rw [List.getElem?_map] at hk
      obtain ⟨j, hj, rfl⟩ := Option.map_eq_some_iff.1 hk
      obtain ⟨hlt, rfl⟩ := List.getElem?_eq_some_iff.1 hj
      rw [List.length_range] at hlt
      rw [List.getElem_range, dif_pos hlt]
      exact (hi i hlt).choose_spec.1
end Go.Proofs.Tz
