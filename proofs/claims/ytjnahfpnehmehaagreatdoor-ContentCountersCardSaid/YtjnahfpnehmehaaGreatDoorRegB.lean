/- The registry of styles: signs. -/
import Derived.Test.YtjnahfpnehmehaaGreatDoorRegA
namespace Go.Proofs.Tz
open Go Go.AE Go.RowKit Go.Proofs
set_option maxRecDepth 100000
variable {sum : FuncId → List AV → St → Option (AV × St)}
theorem un31 : und Tryz.prog 31 = some (.slice 9) := by kernel_rfl
theorem sub1 {m : Nat} (h : m < 9223372036854775808) : intBin .sub .i64 (m : Int) 1 = some (.int .i64 ((m : Int) - 1)) := by
  have : wrapF .i64 (Int.sub (m : Int) 1) = (m : Int) - 1 := by
    rw [wrapF_eq]
    show IntKind.wrap .i64 ((m : Int) - 1) = _
    rw [IntWalk.i64_in _ (by omega)]
  simp only [intBin, this]
/-- Texts' cells. -/
def strC (s : List UInt8) : List AV := [.str s]
theorem row_set {st : St} {x : AV} {f e z c : Nat} {l : List (List AV)} {o : AObj} (h : IsRow st x f e z l) (hc : ∀ B, st.heap.get c ≠ some (.cells B)) : IsRow (st.setObj c o) x f e z l := by
  rcases h with h | ⟨m, h1, h2, h3, h4⟩
  · exact .inl h
  · obtain ⟨t', room, k1, k2⟩ := h4.blk
    obtain ⟨F, k3, k4⟩ := h4.fam
    have hm : m ≠ c := by
      rintro rfl
      exact hc _ k1
    exact .inr ⟨m, h1, by rw [set_next]; exact h2, by rw [set_next]; exact h3, ⟨⟨t', room, by rw [set_get, if_neg hm]; exact k1, k2⟩, ⟨F, by rw [set_fams]; exact k3, k4⟩⟩⟩
theorem Bld.set {n0 : Nat} {st : St} {b f c : Nat} {l : List UInt8} {o : AObj} (h : Bld n0 st b f l) (hc : ∀ B, st.heap.get c ≠ some (.cells B)) : Bld n0 (st.setObj c o) b f l := by
  obtain ⟨h1, a, x, h2, h3, h4, h5⟩ := h
  have hne : b ≠ c := by
    rintro rfl
    exact hc _ h2
  refine ⟨by rw [set_next]; exact h1, a, x, by rw [set_get, if_neg hne]; exact h2, h3, row_set h4 hc, ?_⟩
  rw [set_fams]; exact h5
/-- slices.Backward[[]int,int] -/
def c162 : SC := (.seq (.region [⟨.box 55 (.tmp 0), some 1, none⟩, ⟨.assign (.const .nilFunc), some 2, none⟩])
  (.seq (.region [⟨.makeFunc (.func 193) #[] #[(.tmp 1)], some 3, none⟩, ⟨.assign (.tmp 3), some 2, none⟩])
  .ret))
theorem c162_of : SC.of Tryz.f162.body.get! = c162 := by kernel_rfl
theorem body162 : Tryz.f162.body = some (Tryz.f162.body.get!) := by kernel_rfl
theorem nt162 : Tryz.f162.ntmps = 4 := by kernel_rfl
theorem res162 : Tryz.f162.results.toList = [.tmp 2] := by kernel_rfl
theorem backward_ok (hs : ∀ xs st, sum 162 xs st = none) {x : AV} (hx : x.plain = true) (hc : x.cells = [x]) (st : St) : CallW (CS sum) 162 [x] st fun v st' => v = .func (.func 193) [] [.ptr st.next 0] ∧ st' = st.push (boxO 55 x) := by
  refine CallW.enter (hs _ _) Tryz.func162 body162 c162_of rfl ?_
  rw [nt162]
  unfold c162
  refine WK.seq ?_
  refine WK.region ?_
  refine WR.op rfl rfl (r_box rfl (by rw [hc]; simp [hx])) rfl ?_
  refine WR.op rfl rfl rfl rfl ?_
  refine WR.nil ?_
  refine after.seq ?_
  refine WK.seq ?_
  refine WK.region ?_
  refine WR.op rfl rfl rfl rfl ?_
  refine WR.op rfl rfl rfl rfl ?_
  refine WR.nil ?_
  refine after.seq ?_
  refine WK.ret ?_
  exact ⟨ret_ne 0, ret_ne, [.func (.func 193) [] [.ptr st.next 0]], (by rw [res162]; rfl), rfl, rfl⟩
/-- slices.Backward[[]int,int]$1 -/
def c193 : SC := (.seq (.region [⟨.load 55 (.tmp 1), some 4, none⟩, ⟨.call ⟨.builtin .len, #[(.tmp 4)], #[55]⟩, some 5, none⟩, ⟨.binOp .sub 3 (.tmp 5) (.const (.int .i64 1)) 3, some 6, none⟩, ⟨.assign (.tmp 6), some 3, none⟩])
  (.block 0 (.loop (.seq (.seq (.region [⟨.move (.tmp 3), some 7, none⟩, ⟨.binOp .geq 3 (.tmp 7) (.const (.int .i64 0)) 3, some 8, none⟩])
  (.cond (.tmp 8) .skip (.exit 0)))
  (.seq (.block 1 (.seq (.region [⟨.move (.tmp 0), some 11, none⟩, ⟨.move (.tmp 3), some 12, none⟩, ⟨.load 55 (.tmp 1), some 13, none⟩, ⟨.move (.tmp 3), some 14, none⟩, ⟨.indexAddr 55 (.tmp 13) (.tmp 14), some 15, none⟩, ⟨.load 3 (.tmp 15), some 16, none⟩, ⟨.call ⟨.value (.tmp 11), #[(.tmp 12), (.tmp 16)], #[3, 3]⟩, some 17, none⟩, ⟨.unOp .not 4 (.tmp 17), some 18, none⟩])
  (.cond (.tmp 18) .ret .skip)))
  (.region [⟨.move (.tmp 3), some 9, none⟩, ⟨.binOp .sub 3 (.tmp 9) (.const (.int .i64 1)) 3, some 10, none⟩, ⟨.assign (.tmp 10), some 3, none⟩]))))))
theorem c193_of : SC.of Tryz.f193.body.get! = c193 := by kernel_rfl
theorem body193 : Tryz.f193.body = some (Tryz.f193.body.get!) := by kernel_rfl
theorem nt193 : Tryz.f193.ntmps = 19 := by kernel_rfl
theorem res193 : Tryz.f193.results.toList = [] := by kernel_rfl
/-- fleuron/system.chosen -/
def c119 : SC := (.seq (.region [⟨.box 75 (.tmp 0), some 2, none⟩, ⟨.assign (.const (.string ⟨#[]⟩)), some 4, none⟩, ⟨.assign (.const (.bool false)), some 5, none⟩])
  (.seq (.seq (.region [⟨.move (.tmp 1), some 9, none⟩, ⟨.call ⟨.builtin .len, #[(.tmp 9)], #[55]⟩, some 10, none⟩, ⟨.binOp .gtr 3 (.tmp 10) (.const (.int .i64 60)) 3, some 11, none⟩])
  (.cond (.tmp 11) (.seq (.region [⟨.assign (.const (.string ⟨#[]⟩)), some 4, none⟩, ⟨.assign (.const (.bool false)), some 5, none⟩])
  .ret) .skip))
  (.seq (.region [⟨.alloc 106, some 6, none⟩])
  (.seq (.seq (.region [⟨.move (.tmp 1), some 12, none⟩, ⟨.call ⟨.value (.func 162), #[(.tmp 12)], #[55]⟩, some 13, none⟩])
  (.block 0 (.rangeFunc (.tmp 13) [14, 15] (.region [⟨.assign (.tmp 15), some 8, none⟩])
  (.block 1 (.region [⟨.fieldAddr 75 (.tmp 2) 3, some 16, none⟩, ⟨.load 31 (.tmp 16), some 17, none⟩, ⟨.move (.tmp 8), some 18, none⟩, ⟨.indexAddr 31 (.tmp 17) (.tmp 18), some 19, none⟩, ⟨.load 9 (.tmp 19), some 20, none⟩, ⟨.call ⟨.value (.func 42), #[(.tmp 6), (.tmp 20)], #[106, 9]⟩, some 21, none⟩])))))
  (.seq (.region [⟨.call ⟨.value (.func 43), #[(.tmp 6)], #[106]⟩, some 22, none⟩, ⟨.assign (.tmp 22), some 4, none⟩, ⟨.assign (.const (.bool true)), some 5, none⟩])
  .ret)))))
theorem c119_of : SC.of Tryz.f119.body.get! = c119 := by kernel_rfl
theorem body119 : Tryz.f119.body = some (Tryz.f119.body.get!) := by kernel_rfl
theorem nt119 : Tryz.f119.ntmps = 23 := by kernel_rfl
theorem res119 : Tryz.f119.results.toList = [.tmp 4, .tmp 5] := by kernel_rfl
def c119a : SC := (.region [⟨.assign (.tmp 15), some 8, none⟩])
def c119b : SC := (.block 1 (.region [⟨.fieldAddr 75 (.tmp 2) 3, some 16, none⟩, ⟨.load 31 (.tmp 16), some 17, none⟩, ⟨.move (.tmp 8), some 18, none⟩, ⟨.indexAddr 31 (.tmp 17) (.tmp 18), some 19, none⟩, ⟨.load 9 (.tmp 19), some 20, none⟩, ⟨.call ⟨.value (.func 42), #[(.tmp 6), (.tmp 20)], #[106, 9]⟩, some 21, none⟩]))
/-- What holds while the symbols are put together. -/
structure Put (st1 : St) (bb lb bc : Nat) (o : AObj) (pl : AV) (acc : List UInt8) (st : St) : Prop where
  ext : Ext st1 st
  bld : ∃ f, Bld st1.next st bb f acc
  hl : st.heap.get lb = some o
  hc : st.heap.get bc = some (boxO 55 pl)
  llt : lb < st.next
  clt : bc < st.next
theorem yield_ok (hs : ∀ f ∈ [42, 77, 117], ∀ xs st, sum f xs st = none) {d : D} {syms : List (List UInt8)} {st1 : St} {bb lb bc bd : Nat} (hb : st1.next ≤ bb) (hlb : st1.next ≤ lb) (hbd : bd < st1.next) (hd : st1.heap.get bd = some (boxO 75 d.av)) (hsy : Els st1 d.syms 1 (syms.map strC)) (hne : lb ≠ bc ∧ bb ≠ bc ∧ bb ≠ lb) {fr : Fr} {a b : Code} {pl : AV} {E : Env} (hf : FrIs 23 none E fr) (ha : SC.of a = c119a) (hbo : SC.of b = c119b) (e2 : lookE 2 E = some (.ptr bd 0)) (e6 : lookE 6 E = some (.ptr bb 0))
    {acc : List UInt8} {p : Nat} (hp : p < syms.length) (hpe : syms[p] ≠ []) (hacc : acc.length + (syms[p]).length ≤ 1000000) (i : Int) {st : St} (h : Put st1 bb lb bc (.loop .ready none fr [14, 15] a b) pl acc st) :
    YieldW (CS sum) lb [.int .i64 i, .int .i64 (p : Int)] st fun v st' => v = .bool true ∧ Put st1 bb lb bc (.loop .ready none fr [14, 15] a b) pl (acc ++ syms[p]) st' := by
  obtain ⟨f, hB⟩ := h.bld
  have hnc : ∀ B, st.heap.get lb ≠ some (.cells B) := fun B hc => by
    rw [h.hl] at hc
    cases hc
  refine YieldW.intro h.hl hf ha hbo rfl rfl ?_
  show WK (CS sum) 23 (some lb) c119a [] ([(15, .int .i64 (p : Int)), (14, .int .i64 i)] ++ E) st _
  unfold c119a
  refine WK.region ?_
  refine WR.op rfl rfl rfl rfl ?_
  refine WR.nil ?_
  refine after.nil ⟨rfl, h.hl, ?_⟩
  let o2 : AObj := .loop .busy none fr [14, 15] a b
  show WK (CS sum) 23 (some lb) c119b [] ((8, .int .i64 (p : Int)) :: ([(15, .int .i64 (p : Int)), (14, .int .i64 i)] ++ E)) (st.setObj lb o2) _
  have hext : Ext st1 (st.setObj lb o2) := h.ext.set hlb _
  have hd2 : (st.setObj lb o2).heap.get bd = some (boxO 75 d.av) := by rw [hext.heap bd hbd]; exact hd
  have hB2 : Bld st1.next (st.setObj lb o2) bb f acc := hB.set hnc
  obtain ⟨ma, off, ka, kl⟩ := (hsy.ext hext).at (n := p) (t := 31) un31 sz9 (by rw [List.length_map]; exact hp)
  have hget : (syms.map strC)[p]? = some (strC syms[p]) := by rw [List.getElem?_map, List.getElem?_eq_getElem hp]; rfl
  have hld := fun ρ' x' h => (kl (strC syms[p]) hget rfl ρ' 9 x' h).1 agg9 _ rfl
  refine WK.sub [(8, .int .i64 (p : Int)), (2, .ptr bd 0), (6, .ptr bb 0)] ?_ ?_
  · intro t v ht
    simp only [lookE_cons] at ht
    by_cases q8 : t = 8
    · rw [if_pos q8] at ht; subst q8; exact ht
    rw [if_neg q8] at ht
    by_cases q2 : t = 2
    · rw [if_pos q2] at ht; subst q2
      rw [← ht]
      exact e2
    rw [if_neg q2] at ht
    by_cases q6 : t = 6
    · rw [if_pos q6] at ht; subst q6
      rw [← ht]
      exact e6
    rw [if_neg q6] at ht
    cases ht
  unfold c119b
  refine WK.block (WK.region ?_)
  refine WR.op rfl rfl (r_fa fo75_3 rfl) rfl ?_
  refine WR.op rfl rfl (r_ld agg31 rfl hd2 rfl) rfl ?_
  refine WR.op rfl rfl rfl rfl ?_
  refine WR.op rfl rfl (ka rfl rfl) rfl ?_
  refine WR.op rfl rfl (hld _ _ rfl) rfl ?_
  refine WR.call (f := 42) («as» := [.ptr bb 0, .str syms[p]]) rfl (.inl rfl) rfl rfl rfl rfl ((writeString_ok hs hB2 hext hb hpe hacc).mono ?_)
  rintro v st2 ⟨⟨f2, hB3⟩, hext3, hk⟩
  refine WR.nil ?_
  refine after.block ?_
  have hlb2 : st2.heap.get lb = some o2 := by
    rw [hk.heap lb (fun e => hne.2.2 e.symm) (by rw [set_next]; exact h.llt), set_get, if_pos rfl]
  have hnc2 : ∀ B, st2.heap.get lb ≠ some (.cells B) := fun B hc => by
    rw [hlb2] at hc
    simp only [o2, Option.some.injEq, reduceCtorEq] at hc
  have hnx := hk.nx
  rw [set_next] at hnx
  refine after.nil ⟨hlb2, rfl, hext3.set hlb _, ⟨f2, hB3.set hnc2⟩, by rw [set_get, if_pos rfl]; rfl, ?_, ?_, ?_⟩
  · rw [set_get, if_neg (fun e => hne.1 e.symm), hk.heap bc (fun e => hne.2.1 e.symm) (by rw [set_next]; exact h.clt), set_get, if_neg (fun e => hne.1 e.symm)]
    exact h.hc
  · rw [set_next]
    have := h.llt
    omega
  · rw [set_next]
    have := h.clt
    omega
def c193loop : SC := (.loop (.seq (.seq (.region [⟨.move (.tmp 3), some 7, none⟩, ⟨.binOp .geq 3 (.tmp 7) (.const (.int .i64 0)) 3, some 8, none⟩])
  (.cond (.tmp 8) .skip (.exit 0)))
  (.seq (.block 1 (.seq (.region [⟨.move (.tmp 0), some 11, none⟩, ⟨.move (.tmp 3), some 12, none⟩, ⟨.load 55 (.tmp 1), some 13, none⟩, ⟨.move (.tmp 3), some 14, none⟩, ⟨.indexAddr 55 (.tmp 13) (.tmp 14), some 15, none⟩, ⟨.load 3 (.tmp 15), some 16, none⟩, ⟨.call ⟨.value (.tmp 11), #[(.tmp 12), (.tmp 16)], #[3, 3]⟩, some 17, none⟩, ⟨.unOp .not 4 (.tmp 17), some 18, none⟩])
  (.cond (.tmp 18) .ret .skip)))
  (.region [⟨.move (.tmp 3), some 9, none⟩, ⟨.binOp .sub 3 (.tmp 9) (.const (.int .i64 1)) 3, some 10, none⟩, ⟨.assign (.tmp 10), some 3, none⟩]))))
/-- The symbols at places, the last place first. -/
def pick (syms : List (List UInt8)) (pl : List Nat) : List UInt8 := (pl.reverse.map fun p => syms.getD p []).flatten
theorem back_loop (hs : ∀ f ∈ [42, 77, 117], ∀ xs st, sum f xs st = none) {d : D} {syms : List (List UInt8)} {pl : List Nat} {x : AV} {fp : Nat} {st1 : St} {bb lb bc bd : Nat} (hb : st1.next ≤ bb) (hlb : st1.next ≤ lb) (hbd : bd < st1.next) (hd : st1.heap.get bd = some (boxO 75 d.av)) (hsy : Els st1 d.syms 1 (syms.map strC)) (hrow : IsRow st1 x fp 3 1 (pl.map intC)) (hne : lb ≠ bc ∧ bb ≠ bc ∧ bb ≠ lb) {fr : Fr} {a b : Code} {E : Env} (hf : FrIs 23 none E fr) (ha : SC.of a = c119a) (hbo : SC.of b = c119b) (e2 : lookE 2 E = some (.ptr bd 0)) (e6 : lookE 6 E = some (.ptr bb 0))
    (hsm : ∀ s ∈ syms, s ≠ [] ∧ s.length ≤ 1000) (hpl : ∀ p ∈ pl, p < syms.length) (hlen : pl.length ≤ 60) : ∀ (m : Nat), m ≤ pl.length → ∀ (acc : List UInt8) (st : St), acc.length + m * 1000 ≤ 1000000 → Put st1 bb lb bc (.loop .ready none fr [14, 15] a b) x acc st →
    ∀ env, lookE 0 env = some (.func (.yield lb) [] []) → lookE 1 env = some (.ptr bc 0) → lookE 3 env = some (.int .i64 ((m : Int) - 1)) →
    WK (CS sum) 19 none c193loop [.block 0] env st fun e env st' => (∀ i, e ≠ .exit i) ∧ ∃ vs, resE (CS sum).P env st' Tryz.f193.results.toList = some vs ∧ Put st1 bb lb bc (.loop .ready none fr [14, 15] a b) x (acc ++ pick syms (pl.take m)) st' := by
  intro m
  induction m with
  | zero =>
    intro hm acc st hacc h env h0 h1 h3
    refine WK.sub [(0, .func (.yield lb) [] []), (1, .ptr bc 0), (3, .int .i64 (((0 : Nat) : Int) - 1))] ?_ ?_
    · intro t v ht
      simp only [lookE_cons] at ht
      by_cases e0 : t = 0
      · rw [if_pos e0] at ht; subst e0; rw [h0]; exact ht
      rw [if_neg e0] at ht
      by_cases e1 : t = 1
      · rw [if_pos e1] at ht; subst e1; rw [h1]; exact ht
      rw [if_neg e1] at ht
      by_cases e3 : t = 3
      · rw [if_pos e3] at ht; subst e3; rw [h3]; exact ht
      rw [if_neg e3] at ht
      cases ht
    unfold c193loop
    refine WK.loop ?_
    refine WK.seq ?_
    refine WK.seq ?_
    refine WK.region ?_
    refine WR.op rfl rfl rfl rfl ?_
    refine WR.op rfl rfl (r_geq rfl rfl (q := false) rfl) rfl ?_
    refine WR.nil ?_
    refine after.seq ?_
    refine WK.cond rfl (fun h => (by cases h)) (fun _ => ?_)
    refine WK.exit ?_
    refine after.seq_exit ?_
    refine after.seq_exit ?_
    refine after.exit ?_
    exact ⟨normal_ne, [], (by rw [res193]; rfl), by rw [show pick syms (pl.take 0) = [] from rfl, List.append_nil]; exact h⟩
  | succ m ih =>
    intro hm acc st hacc h env h0 h1 h3
    have hml : m < pl.length := by omega
    have hlt60 : m < 60 := by omega
    have hx : Els st x 1 (pl.map intC) := (IsRow.els hrow).ext h.ext
    obtain ⟨ma, off, ka, kl⟩ := hx.at (n := m) (t := 55) un55 sz3 (by rw [List.length_map]; exact hml)
    have hget : (pl.map intC)[m]? = some (intC pl[m]) := by rw [List.getElem?_map, List.getElem?_eq_getElem hml]; rfl
    have hld := fun ρ' x' h => (kl (intC pl[m]) hget rfl ρ' 3 x' h).1 agg3 _ rfl
    have hxc : x.cells = [x] := by
      rcases hrow with ⟨rfl, _⟩ | ⟨q, rfl, _⟩ <;> rfl
    have hk0 : (boxO 55 x) = boxO 55 x := rfl
    have hps := hpl pl[m] (List.getElem_mem hml)
    have hsp := hsm syms[pl[m]] (List.getElem_mem hps)
    have e3 : (((m + 1 : Nat) : Int) - 1) = (m : Int) := by omega
    rw [e3] at h3
    refine WK.sub [(0, .func (.yield lb) [] []), (1, .ptr bc 0), (3, .int .i64 (m : Int))] ?_ ?_
    · intro t v ht
      simp only [lookE_cons] at ht
      by_cases e0 : t = 0
      · rw [if_pos e0] at ht; subst e0; rw [h0]; exact ht
      rw [if_neg e0] at ht
      by_cases e1 : t = 1
      · rw [if_pos e1] at ht; subst e1; rw [h1]; exact ht
      rw [if_neg e1] at ht
      by_cases e3 : t = 3
      · rw [if_pos e3] at ht; subst e3; rw [h3]; exact ht
      rw [if_neg e3] at ht
      cases ht
    unfold c193loop
    refine WK.loop ?_
    refine WK.seq ?_
    refine WK.seq ?_
    refine WK.region ?_
    refine WR.op rfl rfl rfl rfl ?_
    refine WR.op rfl rfl (r_geq rfl rfl (q := true) (by rw [iltb_eq]; simp)) rfl ?_
    refine WR.nil ?_
    refine after.seq ?_
    refine WK.cond rfl (fun _ => ?_) (fun h => (by cases h))
    refine WK.skip ?_
    refine after.seq ?_
    refine WK.seq ?_
    refine WK.block ?_
    refine WK.seq ?_
    refine WK.region ?_
    refine WR.op rfl rfl rfl rfl ?_
    refine WR.op rfl rfl rfl rfl ?_
    refine WR.op rfl rfl (r_ld agg55 rfl h.hc (by show x.cells[0]? = some x; rw [hxc]; rfl)) rfl ?_
    refine WR.op rfl rfl rfl rfl ?_
    refine WR.op rfl rfl (ka rfl rfl) rfl ?_
    refine WR.op rfl rfl (hld _ _ rfl) rfl ?_
    refine WR.yield (k := lb) (xs := [.int .i64 (m : Int), .int .i64 (pl[m] : Int)]) (x := .tmp 11) rfl rfl rfl rfl rfl rfl rfl ((yield_ok hs hb hlb hbd hd hsy hne hf ha hbo e2 e6 hps hsp.1 (by omega) (m : Int) h).mono ?_)
    rintro v st2 ⟨rfl, h2⟩
    refine WR.op rfl rfl rfl rfl ?_
    refine WR.nil ?_
    refine after.seq ?_
    refine WK.cond rfl (fun h => (by cases h)) (fun _ => ?_)
    refine WK.skip ?_
    refine after.block ?_
    refine after.seq ?_
    refine WK.region ?_
    refine WR.op rfl rfl rfl rfl ?_
    refine WR.op rfl rfl (r_arith ⟨by decide, by decide⟩ rfl rfl (sub1 (by omega))) rfl ?_
    refine WR.op rfl rfl rfl rfl ?_
    refine WR.nil ?_
    refine after.seq ?_
    have hpk : pick syms (pl.take (m + 1)) = syms[pl[m]] ++ pick syms (pl.take m) := by
      have ht : pl.take (m + 1) = pl.take m ++ [pl[m]] := by rw [List.take_add_one, List.getElem?_eq_getElem hml]; rfl
      unfold pick
      rw [ht, List.reverse_append]
      simp [List.getD_eq_getElem?_getD, hps]
    rw [hpk, ← List.append_assoc]
    refine ih (by omega) (acc ++ syms[pl[m]]) st2 (by rw [List.length_append]; omega) h2 _ rfl rfl ?_
    rfl
end Go.Proofs.Tz

namespace Go.Proofs.Tz
open Go Go.AE Go.RowKit Go.Proofs
set_option maxRecDepth 100000
variable {sum : FuncId → List AV → St → Option (AV × St)}
theorem bld_string (hs : ∀ xs st, sum 43 xs st = none) {b f : Nat} {l : List UInt8} {st0 st : St} (h0 : Ext st0 st) (h : Bld st0.next st b f l) (hl2 : l.length ≤ 1000000) : CallW (CS sum) 43 [.ptr b 0] st fun v st' => v = .str l ∧ Ext st0 st' := by
  obtain ⟨_, a, x, h1, _, h3, h4⟩ := h
  rcases h4 with rfl | ⟨q1, q2, q3⟩
  · have hl : l = [] := by
      rcases h3 with ⟨_, e⟩ | ⟨m, e, _⟩
      · have := congrArg List.length e
        rw [byteEls_len] at this
        exact List.length_eq_zero_iff.1 this
      · cases e
    subst hl
    exact Bld.string_nil hs h0 h1
  · exact Bld.string_ok hs h0 h1 h3 q1 q2 hl2 q3
theorem pick_len {syms : List (List UInt8)} (hsm : ∀ s ∈ syms, s ≠ [] ∧ s.length ≤ 1000) : ∀ (pl : List Nat), (pl.map fun p => syms.getD p []).flatten.length ≤ pl.length * 1000
  | [] => Nat.zero_le _
  | p :: r => by
    have ih := pick_len hsm r
    have hp : (syms.getD p []).length ≤ 1000 := by
      rw [List.getD_eq_getElem?_getD]
      cases h : syms[p]? with
      | none => simp
      | some s => exact (hsm s (List.mem_of_getElem? h)).2
    rw [List.map_cons, List.flatten_cons, List.length_append, List.length_cons, Nat.succ_mul]
    omega
theorem back_ok (hs : ∀ f ∈ [42, 77, 117], ∀ xs st, sum f xs st = none) {d : D} {syms : List (List UInt8)} {pl : List Nat} {x : AV} {fp : Nat} {st1 : St} {bb lb bc bd : Nat} (hb : st1.next ≤ bb) (hlb : st1.next ≤ lb) (hbd : bd < st1.next) (hd : st1.heap.get bd = some (boxO 75 d.av)) (hsy : Els st1 d.syms 1 (syms.map strC)) (hrow : IsRow st1 x fp 3 1 (pl.map intC)) (hne : lb ≠ bc ∧ bb ≠ bc ∧ bb ≠ lb) {fr : Fr} {a b : Code} {E : Env} (hf : FrIs 23 none E fr) (ha : SC.of a = c119a) (hbo : SC.of b = c119b) (e2 : lookE 2 E = some (.ptr bd 0)) (e6 : lookE 6 E = some (.ptr bb 0))
    (hsm : ∀ s ∈ syms, s ≠ [] ∧ s.length ≤ 1000) (hpl : ∀ p ∈ pl, p < syms.length) (hlen : pl.length ≤ 60) {st : St} (h : Put st1 bb lb bc (.loop .ready none fr [14, 15] a b) x [] st) :
    CallBW (CS sum) 193 [.func (.yield lb) [] [], .ptr bc 0] st fun _ st' => Put st1 bb lb bc (.loop .ready none fr [14, 15] a b) x (pick syms pl) st' := by
  have hx : Els st x 1 (pl.map intC) := (IsRow.els hrow).ext h.ext
  have hlm : (pl.map intC).length = pl.length := List.length_map _
  have hxc : x.cells = [x] := by
    rcases hrow with ⟨rfl, _⟩ | ⟨q, rfl, _⟩ <;> rfl
  have hln : ∀ {ρ : Rho} {y : Operand}, ρ y = some x → aopR Tryz.prog ρ st (.call ⟨.builtin .len, #[y], #[55]⟩) = some (.int .i64 (pl.length : Int), st) := by
    intro ρ y hy
    rw [← hlm]
    exact r_lenE ⟨_, un55⟩ hy hx
  refine CallBW.enter Tryz.func193 body193 c193_of rfl ?_
  rw [nt193]
  unfold c193
  refine WK.seq ?_
  refine WK.region ?_
  refine WR.op rfl rfl (r_ld agg55 rfl h.hc (by show x.cells[0]? = some x; rw [hxc]; rfl)) rfl ?_
  refine WR.op rfl rfl (hln rfl) rfl ?_
  refine WR.op rfl rfl (r_arith ⟨by decide, by decide⟩ rfl rfl (sub1 (by omega))) rfl ?_
  refine WR.op rfl rfl rfl rfl ?_
  refine WR.nil ?_
  refine after.seq ?_
  refine WK.block ?_
  have hfin := back_loop hs hb hlb hbd hd hsy hrow hne hf ha hbo e2 e6 hsm hpl hlen pl.length (Nat.le_refl _) [] st (by simp; omega) h
  rw [List.take_length, List.nil_append] at hfin
  exact hfin _ rfl rfl rfl
theorem chosen_ok (hs : ∀ f ∈ [119, 162, 43, 42, 77, 117], ∀ xs st, sum f xs st = none) {d : D} (hd : d.Plain) {syms : List (List UInt8)} {pl : List Nat} {x : AV} {fp : Nat} {st : St} (hsy : Els st d.syms 1 (syms.map strC)) (hrow : IsRow st x fp 3 1 (pl.map intC))
    (hsm : ∀ s ∈ syms, s ≠ [] ∧ s.length ≤ 1000) (hpl : ∀ p ∈ pl, p < syms.length) :
    CallW (CS sum) 119 [d.av, x] st fun v st' => v = .tup [.str (if pl.length ≤ 60 then pick syms pl else []), .bool (decide (pl.length ≤ 60))] ∧ Ext st st' := by
  have hext1 : Ext st (st.push (boxO 75 d.av)) := (Ext.refl st).push _
  have hd1 := push_self st (boxO 75 d.av)
  have hlm : (pl.map intC).length = pl.length := List.length_map _
  have hln : ∀ {ρ : Rho} {y : Operand}, ρ y = some x → aopR Tryz.prog ρ (st.push (boxO 75 d.av)) (.call ⟨.builtin .len, #[y], #[55]⟩) = some (.int .i64 (pl.length : Int), st.push (boxO 75 d.av)) := by
    intro ρ y hy
    rw [← hlm]
    exact r_lenE ⟨_, un55⟩ hy ((IsRow.els hrow).ext hext1)
  have hxc : x.cells = [x] := by
    rcases hrow with ⟨rfl, _⟩ | ⟨q, rfl, _⟩ <;> rfl
  have hxp : x.plain = true := by
    rcases hrow with ⟨rfl, _⟩ | ⟨q, rfl, _⟩ <;> rfl
  have hz : (AV.agg [.nilp, .nils] : AV).cells = [.nilp, .nils] := rfl
  refine CallW.enter (hs 119 (by simp) _ _) Tryz.func119 body119 c119_of rfl ?_
  rw [nt119]
  unfold c119
  refine WK.seq ?_
  refine WK.region ?_
  refine WR.op rfl rfl (r_box rfl hd.ok) rfl ?_
  refine WR.op rfl rfl rfl rfl ?_
  refine WR.op rfl rfl rfl rfl ?_
  refine WR.nil ?_
  refine after.seq ?_
  refine WK.seq ?_
  refine WK.seq ?_
  refine WK.region ?_
  refine WR.op rfl rfl rfl rfl ?_
  refine WR.op rfl rfl (hln rfl) rfl ?_
  cases h11 : iltb 60 (pl.length : Int)
  · refine WR.op rfl rfl (r_gtr rfl rfl h11) rfl ?_
    refine WR.nil ?_
    refine after.seq ?_
    refine WK.cond rfl (fun h => (by cases h)) (fun _ => ?_)
    refine WK.skip ?_
    refine after.seq ?_
    refine WK.seq ?_
    refine WK.region ?_
    refine WR.op rfl rfl (r_alloc ze106 rfl) rfl ?_
    refine WR.nil ?_
    refine after.seq ?_
    refine WK.seq ?_
    refine WK.seq ?_
    refine WK.region ?_
    have hlen : pl.length ≤ 60 := by
      rw [iltb_eq] at h11
      simp only [decide_eq_false_iff_not] at h11
      omega
    obtain ⟨st2, hst2⟩ : ∃ s, s = (st.push (boxO 75 d.av)).push (boxO 106 (.agg [.nilp, .nils])) := ⟨_, rfl⟩
    rw [← hst2]
    have hext2 : Ext (st.push (boxO 75 d.av)) st2 := by rw [hst2]; exact (Ext.refl _).push _
    have hb2 : st2.heap.get (st.push (boxO 75 d.av)).next = some (boxO 106 (.agg [.nilp, .nils])) := by rw [hst2]; exact push_self _ _
    have hn2 : st2.next = (st.push (boxO 75 d.av)).next + 1 := by rw [hst2]; exact push_next _ _
    refine WR.op rfl rfl rfl rfl ?_
    refine WR.call (f := 162) («as» := [x]) rfl (.inl rfl) rfl rfl rfl rfl ((backward_ok (hs 162 (by simp)) hxp hxc _).mono ?_)
    rintro v st3 ⟨rfl, rfl⟩
    refine WR.nil ?_
    refine after.seq ?_
    refine WK.block ?_
    refine WK.rangeFunc (f := 193) (first := []) (captured := [.ptr st2.next 0]) rfl ?_
    intro fr a b hfr ha hbo
    have hn3 : (st2.push (boxO 55 x)).next = st2.next + 1 := push_next _ _
    have hn4 : ((st2.push (boxO 55 x)).push (.loop .ready none fr [14, 15] a b)).next = st2.next + 2 := by rw [push_next, hn3]
    have hput : Put (st.push (boxO 75 d.av)) (st.push (boxO 75 d.av)).next (st2.push (boxO 55 x)).next st2.next (.loop .ready none fr [14, 15] a b) x [] ((st2.push (boxO 55 x)).push (.loop .ready none fr [14, 15] a b)) := by
      refine ⟨((hext2.push _).push _), ⟨0, by rw [hn4]; omega, .nilp, .nils, ?_, .inl rfl, .inl ⟨rfl, rfl⟩, .inl rfl⟩, push_self _ _, ?_, by rw [hn4, hn3]; omega, by rw [hn4]; omega⟩
      · rw [push_lt _ _ (by omega), push_lt _ _ (by omega)]
        exact hb2
      · rw [push_lt _ _ (by omega)]
        exact push_self _ _
    refine CallBW.mono (back_ok (fun f hf => hs f (by simp only [List.mem_cons, List.not_mem_nil, or_false] at hf; rcases hf with rfl | rfl | rfl <;> simp)) (Nat.le_refl _) (by omega) (by rw [push_next]; omega) hd1 (hsy.ext hext1) (hrow.ext hext1) ⟨by omega, by omega, by omega⟩ hfr ha hbo rfl rfl hsm hpl hlen hput) ?_
    intro v st5 h5
    refine ⟨.ready, none, .normal, h5.hl, rfl, ?_⟩
    have hnc : ∀ B, st5.heap.get (st2.push (boxO 55 x)).next ≠ some (.cells B) := fun B hc => by
      rw [h5.hl] at hc
      cases hc
    have hext6 : Ext (st.push (boxO 75 d.av)) (st5.setObj (st2.push (boxO 55 x)).next (.loop .exhausted none fr [14, 15] a b)) := h5.ext.set (by omega) _
    obtain ⟨f5, hB5⟩ := h5.bld
    have hB6 := hB5.set (o := .loop .exhausted none fr [14, 15] a b) hnc
    have hpk : (pick syms pl).length ≤ 1000000 := by
      have := pick_len hsm pl.reverse
      rw [List.length_reverse] at this
      unfold pick
      omega
    refine after.block ?_
    refine after.seq ?_
    refine WK.seq ?_
    refine WK.region ?_
    refine WR.call (f := 43) («as» := [.ptr (st.push (boxO 75 d.av)).next 0]) rfl (.inl rfl) rfl rfl rfl rfl ((bld_string (hs 43 (by simp)) hext6 hB6 hpk).mono ?_)
    rintro v st7 ⟨rfl, k7⟩
    refine WR.op rfl rfl rfl rfl ?_
    refine WR.op rfl rfl rfl rfl ?_
    refine WR.nil ?_
    refine after.seq ?_
    refine WK.ret ?_
    refine ⟨ret_ne 0, ret_ne, [.str (pick syms pl), .bool true], (by rw [res119]; rfl), ?_, hext1.trans k7⟩
    rw [if_pos hlen, decide_eq_true hlen]
    rfl
  · refine WR.op rfl rfl (r_gtr rfl rfl h11) rfl ?_
    refine WR.nil ?_
    refine after.seq ?_
    refine WK.cond rfl (fun _ => ?_) (fun h => (by cases h))
    refine WK.seq ?_
    refine WK.region ?_
    refine WR.op rfl rfl rfl rfl ?_
    refine WR.op rfl rfl rfl rfl ?_
    refine WR.nil ?_
    refine after.seq ?_
    refine WK.ret ?_
    refine after.seq_ret ?_
    have hlen : 60 < pl.length := by
      rw [iltb_eq] at h11
      simp only [decide_eq_true_eq] at h11
      omega
    refine ⟨ret_ne 0, ret_ne, [.str [], .bool false], (by rw [res119]; rfl), ?_, hext1⟩
    rw [if_neg (by omega), decide_eq_false (by omega)]
    rfl
end Go.Proofs.Tz

namespace Go.Proofs.Tz
open Go Go.AE Go.RowKit Go.Proofs
set_option maxRecDepth 100000
variable {sum : FuncId → List AV → St → Option (AV × St)}
theorem mem_need_two {T S S1 S2 : St} {i bi e1 b1 e2 b2 : Nat} (h : T ∈ need i bi [(e1, b1, S1), (e2, b2, S2)] S) (h1 : b2.testBit i = true) : T = S ∨ T = S1 := by
  simp only [need, h1, cond_true, List.append_nil, List.mem_append] at h
  rcases h with h | h
  · cases hq : anyIn bi [(e1, b1, S1), (e2, b2, S2)] with
    | true => rw [hq] at h; cases h
    | false => rw [hq] at h; exact .inl (List.mem_singleton.1 h)
  · cases hq : b1.testBit i with
    | true => rw [hq] at h; cases h
    | false =>
      rw [hq, cond_false] at h
      cases hq2 : anyIn bi [(e2, b2, S2)] with
      | true => rw [hq2] at h; cases h
      | false => rw [hq2] at h; exact .inr (List.mem_singleton.1 h)
theorem same_agg {c : List AV} (h : sameL c c = true) : sameV (.agg c) (.agg c) = true := h
theorem D.same {d : D} (h1 : same1 d.syms d.syms = true) (h2 : same1 d.weights d.weights = true) (h3 : same1 d.range d.range = true) : sameV d.av d.av = true := by
  have hs : ∀ s, same1 (.str s) (.str s) = true := fun s => eqL_self s
  have hi : ∀ n, same1 (.int .i64 n) (.int .i64 n) = true := fun n => by
    have : ieqb n n = true := by rw [ieqb_eq]; simp
    show (true && ieqb n n) = true
    rw [this]; rfl
  have hb : ∀ b, same1 (.bool b) (.bool b) = true := fun b => by cases b <;> rfl
  refine same_agg ?_
  simp only [D.cells, sameL, hs, hi, hb, h1, h2, h3, Bool.and_self]
theorem posZ_lt {k : Nat} (hk : 2 ≤ k) : ∀ (f n : Nat), ∀ p ∈ posZ k f n, p < k
  | 0, _, p, h => by cases h
  | f + 1, n, p, h => by
    rw [posZ] at h
    split at h
    · rcases List.mem_cons.1 h with rfl | h
      · exact Nat.mod_lt _ (by omega)
      · exact posZ_lt hk f _ p h
    · cases h
theorem posA_lt {k : Nat} (hk : 2 ≤ k) : ∀ (f n : Nat), ∀ p ∈ posA k f n, p < k
  | 0, _, p, h => by cases h
  | f + 1, n, p, h => by
    rw [posA] at h
    split at h
    · rcases List.mem_cons.1 h with rfl | h
      · exact Nat.mod_lt _ (by omega)
      · exact posA_lt hk f _ p h
    · cases h
theorem digs_lt (zero : Bool) {k n : Nat} (hk : 2 ≤ k) : ∀ p ∈ digs zero k n, p < k := by
  intro p hp
  cases zero with
  | true =>
    rcases List.mem_cons.1 hp with rfl | hp
    · exact Nat.mod_lt _ (by omega)
    · exact posZ_lt hk 40 n p hp
  | false => exact posA_lt hk 40 n p hp
/-- fleuron/system.Signs -/
def c79 : SC := (.seq (.region [⟨.box 75 (.tmp 0), some 2, none⟩, ⟨.assign (.const (.string ⟨#[]⟩)), some 4, none⟩, ⟨.assign (.const (.bool false)), some 5, none⟩])
  (.seq (.seq (.region [⟨.load 75 (.tmp 2), some 9, none⟩, ⟨.call ⟨.value (.func 70), #[(.tmp 9)], #[75]⟩, some 10, none⟩, ⟨.unOp .not 4 (.tmp 10), some 11, none⟩, ⟨.move (.tmp 11), some 12, none⟩, ⟨.move (.tmp 1), some 13, some (12, false)⟩, ⟨.binOp .lss 3 (.tmp 13) (.const (.int .i64 (-2147483648))) 3, some 14, some (12, false)⟩, ⟨.pick (.tmp 12) (.const (.bool true)) (.tmp 14), some 15, none⟩, ⟨.move (.tmp 15), some 16, none⟩, ⟨.move (.tmp 1), some 17, some (16, false)⟩, ⟨.binOp .gtr 3 (.tmp 17) (.const (.int .i64 2147483648)) 3, some 18, some (16, false)⟩, ⟨.pick (.tmp 16) (.const (.bool true)) (.tmp 18), some 19, none⟩])
  (.cond (.tmp 19) (.seq (.region [⟨.assign (.const (.string ⟨#[]⟩)), some 4, none⟩, ⟨.assign (.const (.bool false)), some 5, none⟩])
  .ret) .skip))
  (.seq (.region [⟨.fieldAddr 75 (.tmp 2) 3, some 20, none⟩, ⟨.load 31 (.tmp 20), some 21, none⟩, ⟨.call ⟨.builtin .len, #[(.tmp 21)], #[31]⟩, some 22, none⟩, ⟨.assign (.tmp 22), some 6, none⟩])
  (.seq (.seq (.region [⟨.fieldAddr 75 (.tmp 2) 1, some 23, none⟩, ⟨.load 9 (.tmp 23), some 24, none⟩])
  (.block 0 (.seq (.region [⟨.binOp .eql 9 (.tmp 24) (.const (.string ⟨#[99, 121, 99, 108, 105, 99]⟩)) 9, some 26, none⟩, ⟨.assign (.tmp 26), some 25, none⟩])
  (.cond (.tmp 25) (.seq (.draw [⟨.fieldAddr 75 (.tmp 2) 3, some 27, none⟩, ⟨.load 31 (.tmp 27), some 28, none⟩, ⟨.move (.tmp 1), some 29, none⟩, ⟨.binOp .sub 3 (.tmp 29) (.const (.int .i64 1)) 3, some 30, none⟩, ⟨.move (.tmp 6), some 31, none⟩, ⟨.binOp .rem 3 (.tmp 30) (.tmp 31) 3, some 32, none⟩, ⟨.move (.tmp 6), some 33, none⟩, ⟨.binOp .add 3 (.tmp 32) (.tmp 33) 3, some 34, none⟩, ⟨.move (.tmp 6), some 35, none⟩, ⟨.binOp .rem 3 (.tmp 34) (.tmp 35) 3, some 36, none⟩, ⟨.indexAddr 31 (.tmp 28) (.tmp 36), some 37, none⟩, ⟨.load 9 (.tmp 37), some 38, none⟩, ⟨.assign (.tmp 38), some 4, none⟩, ⟨.assign (.const (.bool true)), some 5, none⟩] [0, 1, 0, 4, 0, 28, 0, 124, 0, 508, 1023, 2047, 4095, 8191] true)
  .ret) (.seq (.region [⟨.binOp .eql 9 (.tmp 24) (.const (.string ⟨#[102, 105, 120, 101, 100]⟩)) 9, some 40, none⟩, ⟨.assign (.tmp 40), some 39, none⟩])
  (.cond (.tmp 39) (.seq (.region [⟨.move (.tmp 1), some 41, none⟩, ⟨.convert 3 125 (.tmp 41), some 42, none⟩, ⟨.fieldAddr 75 (.tmp 2) 2, some 43, none⟩, ⟨.load 3 (.tmp 43), some 44, none⟩, ⟨.convert 3 125 (.tmp 44), some 45, none⟩, ⟨.binOp .sub 125 (.tmp 42) (.tmp 45) 125, some 46, none⟩, ⟨.assign (.tmp 46), some 7, none⟩])
  (.seq (.region [⟨.move (.tmp 1), some 47, none⟩, ⟨.fieldAddr 75 (.tmp 2) 2, some 48, none⟩, ⟨.load 3 (.tmp 48), some 49, none⟩, ⟨.binOp .geq 3 (.tmp 47) (.tmp 49) 3, some 50, none⟩, ⟨.move (.tmp 50), some 51, none⟩, ⟨.move (.tmp 7), some 52, some (51, true)⟩, ⟨.move (.tmp 6), some 53, some (51, true)⟩, ⟨.convert 3 125 (.tmp 53), some 54, some (51, true)⟩, ⟨.binOp .lss 125 (.tmp 52) (.tmp 54) 125, some 55, some (51, true)⟩, ⟨.pick (.tmp 51) (.tmp 55) (.const (.bool false)), some 56, none⟩])
  (.cond (.tmp 56) (.seq (.region [⟨.fieldAddr 75 (.tmp 2) 3, some 57, none⟩, ⟨.load 31 (.tmp 57), some 58, none⟩, ⟨.move (.tmp 7), some 59, none⟩, ⟨.indexAddr 31 (.tmp 58) (.tmp 59), some 60, none⟩, ⟨.load 9 (.tmp 60), some 61, none⟩, ⟨.assign (.tmp 61), some 4, none⟩, ⟨.assign (.const (.bool true)), some 5, none⟩])
  .ret) .skip))) (.seq (.region [⟨.binOp .eql 9 (.tmp 24) (.const (.string ⟨#[115, 121, 109, 98, 111, 108, 105, 99]⟩)) 9, some 63, none⟩, ⟨.assign (.tmp 63), some 62, none⟩])
  (.cond (.tmp 62) (.seq (.region [⟨.move (.tmp 1), some 64, none⟩, ⟨.move (.tmp 6), some 65, none⟩, ⟨.binOp .add 3 (.tmp 64) (.tmp 65) 3, some 66, none⟩, ⟨.binOp .sub 3 (.tmp 66) (.const (.int .i64 1)) 3, some 67, none⟩, ⟨.move (.tmp 6), some 68, none⟩, ⟨.binOp .quo 3 (.tmp 67) (.tmp 68) 3, some 69, none⟩, ⟨.assign (.tmp 69), some 8, none⟩])
  (.seq (.region [⟨.move (.tmp 1), some 70, none⟩, ⟨.binOp .geq 3 (.tmp 70) (.const (.int .i64 1)) 3, some 71, none⟩, ⟨.move (.tmp 71), some 72, none⟩, ⟨.move (.tmp 8), some 73, some (72, true)⟩, ⟨.binOp .leq 3 (.tmp 73) (.const (.int .i64 60)) 3, some 74, some (72, true)⟩, ⟨.pick (.tmp 72) (.tmp 74) (.const (.bool false)), some 75, none⟩])
  (.cond (.tmp 75) (.seq (.draw [⟨.fieldAddr 75 (.tmp 2) 3, some 76, none⟩, ⟨.load 31 (.tmp 76), some 77, none⟩, ⟨.move (.tmp 1), some 78, none⟩, ⟨.binOp .sub 3 (.tmp 78) (.const (.int .i64 1)) 3, some 79, none⟩, ⟨.move (.tmp 6), some 80, none⟩, ⟨.binOp .rem 3 (.tmp 79) (.tmp 80) 3, some 81, none⟩, ⟨.indexAddr 31 (.tmp 77) (.tmp 81), some 82, none⟩, ⟨.load 9 (.tmp 82), some 83, none⟩, ⟨.move (.tmp 8), some 84, none⟩, ⟨.call ⟨.value (.func 50), #[(.tmp 83), (.tmp 84)], #[9, 3]⟩, some 85, none⟩, ⟨.assign (.tmp 85), some 4, none⟩, ⟨.assign (.const (.bool true)), some 5, none⟩] [0, 1, 0, 4, 0, 28, 63, 127, 0, 511, 1023, 2047] true)
  .ret) .skip))) (.seq (.region [⟨.binOp .eql 9 (.tmp 24) (.const (.string ⟨#[97, 108, 112, 104, 97, 98, 101, 116, 105, 99]⟩)) 9, some 87, none⟩, ⟨.assign (.tmp 87), some 86, none⟩])
  (.cond (.tmp 86) (.seq (.region [⟨.move (.tmp 1), some 88, none⟩, ⟨.binOp .geq 3 (.tmp 88) (.const (.int .i64 1)) 3, some 89, none⟩])
  (.cond (.tmp 89) (.seq (.draw [⟨.load 75 (.tmp 2), some 90, none⟩, ⟨.move (.tmp 1), some 91, none⟩, ⟨.move (.tmp 6), some 92, none⟩, ⟨.call ⟨.value (.func 120), #[(.tmp 91), (.tmp 92), (.const (.bool false))], #[3, 3, 4]⟩, some 93, none⟩, ⟨.call ⟨.value (.func 119), #[(.tmp 90), (.tmp 93)], #[75, 55]⟩, some 94, none⟩, ⟨.extract (.tmp 94) 0, some 95, none⟩, ⟨.extract (.tmp 94) 1, some 96, none⟩, ⟨.assign (.tmp 95), some 4, none⟩, ⟨.assign (.tmp 96), some 5, none⟩] [0, 0, 0, 6, 15, 31, 31, 127, 255] true)
  .ret) .skip)) (.seq (.region [⟨.binOp .eql 9 (.tmp 24) (.const (.string ⟨#[110, 117, 109, 101, 114, 105, 99]⟩)) 9, some 98, none⟩, ⟨.assign (.tmp 98), some 97, none⟩])
  (.cond (.tmp 97) (.seq (.region [⟨.move (.tmp 1), some 99, none⟩, ⟨.binOp .geq 3 (.tmp 99) (.const (.int .i64 0)) 3, some 100, none⟩])
  (.cond (.tmp 100) (.seq (.draw [⟨.load 75 (.tmp 2), some 101, none⟩, ⟨.move (.tmp 1), some 102, none⟩, ⟨.move (.tmp 6), some 103, none⟩, ⟨.call ⟨.value (.func 120), #[(.tmp 102), (.tmp 103), (.const (.bool true))], #[3, 3, 4]⟩, some 104, none⟩, ⟨.call ⟨.value (.func 119), #[(.tmp 101), (.tmp 104)], #[75, 55]⟩, some 105, none⟩, ⟨.extract (.tmp 105) 0, some 106, none⟩, ⟨.extract (.tmp 105) 1, some 107, none⟩, ⟨.assign (.tmp 106), some 4, none⟩, ⟨.assign (.tmp 107), some 5, none⟩] [0, 0, 0, 6, 15, 31, 31, 127, 255] true)
  .ret) .skip)) (.seq (.region [⟨.binOp .eql 9 (.tmp 24) (.const (.string ⟨#[97, 100, 100, 105, 116, 105, 118, 101]⟩)) 9, some 109, none⟩, ⟨.assign (.tmp 109), some 108, none⟩])
  (.cond (.tmp 108) (.seq (.region [⟨.move (.tmp 1), some 110, none⟩, ⟨.binOp .geq 3 (.tmp 110) (.const (.int .i64 0)) 3, some 111, none⟩])
  (.cond (.tmp 111) (.seq (.region [⟨.load 75 (.tmp 2), some 112, none⟩, ⟨.move (.tmp 1), some 113, none⟩, ⟨.call ⟨.value (.func 121), #[(.tmp 112), (.tmp 113)], #[75, 3]⟩, some 114, none⟩, ⟨.extract (.tmp 114) 0, some 115, none⟩, ⟨.extract (.tmp 114) 1, some 116, none⟩, ⟨.assign (.tmp 115), some 4, none⟩, ⟨.assign (.tmp 116), some 5, none⟩])
  .ret) .skip)) .skip))))))))))))))
  (.seq (.region [⟨.assign (.const (.string ⟨#[]⟩)), some 4, none⟩, ⟨.assign (.const (.bool false)), some 5, none⟩])
  .ret)))))
theorem c79_of : SC.of Tryz.f79.body.get! = c79 := by kernel_rfl
theorem body79 : Tryz.f79.body = some (Tryz.f79.body.get!) := by kernel_rfl
theorem nt79 : Tryz.f79.ntmps = 117 := by kernel_rfl
theorem res79 : Tryz.f79.results.toList = [.tmp 4, .tmp 5] := by kernel_rfl
theorem signs_num (hs : ∀ f ∈ [79, 120, 119, 162, 43, 42, 77, 117], ∀ xs st, sum f xs st = none) {d : D} (hd : d.Plain) (hsame : sameV d.av d.av = true) (hsys : d.sys = tNumeric) {syms : List (List UInt8)} {st : St} (hmay : ∀ st1, Ext st st1 → CallW (CS sum) 70 [d.av] st1 fun v st' => v = .bool true ∧ Ext st1 st') (hsy : Els st d.syms 1 (syms.map strC)) (hsm : ∀ s ∈ syms, s ≠ [] ∧ s.length ≤ 1000) (hk : 2 ≤ syms.length) (hk2 : syms.length < 1000000) (n : Nat) (hn : n ≤ 2147483648) (_hn1 : 0 ≤ n) :
    CallW (CS sum) 79 [d.av, .int .i64 (n : Int)] st fun v st' => v = .tup [.str (if (digs true syms.length n).length ≤ 60 then pick syms (digs true syms.length n) else []), .bool (decide ((digs true syms.length n).length ≤ 60))] ∧ Ext st st' := by
  have hb0 := push_self st (boxO 75 d.av)
  have hext0 : Ext st (st.push (boxO 75 d.av)) := (Ext.refl st).push _
  have hlt0 : st.next < (st.push (boxO 75 d.av)).next := by rw [push_next]; omega
  have hlm : (syms.map strC).length = syms.length := List.length_map _
  refine CallW.enter (hs 79 (by simp) _ _) Tryz.func79 body79 c79_of rfl ?_
  rw [nt79]
  unfold c79
  refine WK.seq ?_
  refine WK.region ?_
  refine WR.op rfl rfl (r_box rfl hd.ok) rfl ?_
  refine WR.op rfl rfl rfl rfl ?_
  refine WR.op rfl rfl rfl rfl ?_
  refine WR.nil ?_
  refine after.seq ?_
  refine WK.seq ?_
  refine WK.seq ?_
  refine WK.region ?_
  refine WR.op rfl rfl (r_ldA agg75 sz75 rfl hb0 (Nat.le_refl 16) rfl) rfl ?_
  refine WR.call (f := 70) («as» := [d.av]) rfl (.inl rfl) rfl rfl rfl rfl ((hmay _ hext0).mono ?_)
  rintro v1 st1 ⟨rfl, k1⟩
  have hb1 : st1.heap.get st.next = some (boxO 75 d.av) := by rw [k1.heap _ hlt0]; exact hb0
  have hln : ∀ {ρ : Rho} {y : Operand}, ρ y = some d.syms → aopR Tryz.prog ρ st1 (.call ⟨.builtin .len, #[y], #[31]⟩) = some (.int .i64 (syms.length : Int), st1) := by
    intro ρ y hy
    rw [← hlm]
    exact r_lenE ⟨_, un31⟩ hy (hsy.ext (hext0.trans k1))
  refine WR.op rfl rfl rfl rfl ?_
  refine WR.op rfl rfl rfl rfl ?_
  refine WR.opG rfl rfl rfl rfl rfl ?_
  refine WR.opG rfl rfl rfl (r_lss rfl rfl (q := false) (by rw [iltb_eq]; simp <;> omega)) rfl ?_
  refine WR.op rfl rfl rfl rfl ?_
  refine WR.op rfl rfl rfl rfl ?_
  refine WR.opG rfl rfl rfl rfl rfl ?_
  refine WR.opG rfl rfl rfl (r_gtr rfl rfl (q := false) (by rw [iltb_eq]; simp <;> omega)) rfl ?_
  refine WR.op rfl rfl rfl rfl ?_
  refine WR.nil ?_
  refine after.seq ?_
  refine WK.cond rfl (fun h => (by cases h)) (fun _ => ?_)
  refine WK.skip ?_
  refine after.seq ?_
  refine WK.seq ?_
  refine WK.region ?_
  refine WR.op rfl rfl (r_fa fo75_3 rfl) rfl ?_
  refine WR.op rfl rfl (r_ld agg31 rfl hb1 rfl) rfl ?_
  refine WR.op rfl rfl (hln rfl) rfl ?_
  refine WR.op rfl rfl rfl rfl ?_
  refine WR.nil ?_
  refine after.seq ?_
  refine WK.seq ?_
  refine WK.seq ?_
  refine WK.region ?_
  refine WR.op rfl rfl (r_fa fo75_1 rfl) rfl ?_
  refine WR.op rfl rfl (r_ld agg9 rfl hb1 rfl) rfl ?_
  refine WR.nil ?_
  refine after.seq ?_
  refine WK.block ?_
  refine WK.seq ?_
  refine WK.region ?_
  refine WR.op rfl rfl (r_seql rfl rfl (q := false) (by rw [hsys]; kernel_rfl)) rfl ?_
  refine WR.op rfl rfl rfl rfl ?_
  refine WR.nil ?_
  refine after.seq ?_
  refine WK.cond rfl (fun h => (by cases h)) (fun _ => ?_)
  refine WK.seq ?_
  refine WK.region ?_
  refine WR.op rfl rfl (r_seql rfl rfl (q := false) (by rw [hsys]; kernel_rfl)) rfl ?_
  refine WR.op rfl rfl rfl rfl ?_
  refine WR.nil ?_
  refine after.seq ?_
  refine WK.cond rfl (fun h => (by cases h)) (fun _ => ?_)
  refine WK.seq ?_
  refine WK.region ?_
  refine WR.op rfl rfl (r_seql rfl rfl (q := false) (by rw [hsys]; kernel_rfl)) rfl ?_
  refine WR.op rfl rfl rfl rfl ?_
  refine WR.nil ?_
  refine after.seq ?_
  refine WK.cond rfl (fun h => (by cases h)) (fun _ => ?_)
  refine WK.seq ?_
  refine WK.region ?_
  refine WR.op rfl rfl (r_seql rfl rfl (q := false) (by rw [hsys]; kernel_rfl)) rfl ?_
  refine WR.op rfl rfl rfl rfl ?_
  refine WR.nil ?_
  refine after.seq ?_
  refine WK.cond rfl (fun h => (by cases h)) (fun _ => ?_)
  refine WK.seq ?_
  refine WK.region ?_
  refine WR.op rfl rfl (r_seql rfl rfl (q := true) (by rw [hsys]; kernel_rfl)) rfl ?_
  refine WR.op rfl rfl rfl rfl ?_
  refine WR.nil ?_
  refine after.seq ?_
  refine WK.cond rfl (fun _ => ?_) (fun h => (by cases h))
  refine WK.seq ?_
  refine WK.region ?_
  refine WR.op rfl rfl rfl rfl ?_
  refine WR.op rfl rfl (r_geq rfl rfl (q := true) (by rw [iltb_eq]; simp)) rfl ?_
  refine WR.nil ?_
  refine after.seq ?_
  refine WK.cond rfl (fun _ => ?_) (fun h => (by cases h))
  refine WK.seq ?_
  refine WK.draw ?_
  have hbr : (resv 9 st1).heap.get st.next = some (boxO 75 d.av) := hb1
  refine WD.read rfl (.inl rfl) rfl (r_ldA agg75 sz75 rfl hbr (Nat.le_refl 16) rfl) rfl ?_
  refine WD.pure rfl (.inl rfl) rfl rfl rfl ?_
  refine WD.pure rfl (.inl rfl) rfl rfl rfl ?_
  refine WD.call (f := 120) rfl (.inl rfl) rfl rfl rfl rfl rfl ((positional_ok (hs 120 (by simp)) hk hk2 true n (by omega) (resv 9 st1)).mono ?_)
  rintro v2 st2 ⟨⟨f2, hrow2, _⟩, k2⟩
  refine WD.call (f := 119) rfl (.inl rfl) rfl rfl rfl rfl rfl ((chosen_ok (fun f hf => hs f (by simp only [List.mem_cons, List.not_mem_nil, or_false] at hf; rcases hf with rfl | rfl | rfl | rfl | rfl | rfl <;> simp)) hd (((hsy.ext (hext0.trans k1)).ext ((Ext.refl st1).resv 9)).ext k2) hrow2 hsm (digs_lt true hk)).mono ?_)
  rintro v3 st3 ⟨rfl, k3⟩
  refine WD.pure rfl (.inl rfl) rfl rfl rfl ?_
  refine WD.pure rfl (.inl rfl) rfl rfl rfl ?_
  refine WD.pure rfl (.inl rfl) rfl rfl rfl ?_
  refine WD.pure rfl (.inl rfl) rfl rfl rfl ?_
  refine WD.nil ⟨.inr ?_, ?_⟩
  · intro e he
    simp only [List.mem_cons, List.not_mem_nil, or_false] at he
    subst he
    refine ⟨hsame, fun S hS => ?_⟩
    rcases mem_need_two hS (by kernel_rfl) with rfl | rfl
    · exact r_ldA agg75 sz75 rfl hbr (Nat.le_refl 16) rfl
    · exact r_ldA (v := d.av) agg75 sz75 rfl (by rw [k2.heap _ (show st.next < (resv 9 st1).next from Nat.lt_of_lt_of_le (Nat.lt_of_lt_of_le hlt0 k1.nx) (Nat.le_add_right _ _))]; exact hbr) (Nat.le_refl 16) rfl
  · refine after.seq ?_
    refine WK.ret ?_
    refine after.block_ret ?_
    refine after.seq_ret ?_
    exact ⟨ret_ne 0, ret_ne, [.str _, .bool _], (by rw [res79]; rfl), rfl, ((hext0.trans k1).trans (((Ext.refl st1).resv 9).trans k2)).trans k3⟩
theorem signs_alp (hs : ∀ f ∈ [79, 120, 119, 162, 43, 42, 77, 117], ∀ xs st, sum f xs st = none) {d : D} (hd : d.Plain) (hsame : sameV d.av d.av = true) (hsys : d.sys = tAlphabetic) {syms : List (List UInt8)} {st : St} (hmay : ∀ st1, Ext st st1 → CallW (CS sum) 70 [d.av] st1 fun v st' => v = .bool true ∧ Ext st1 st') (hsy : Els st d.syms 1 (syms.map strC)) (hsm : ∀ s ∈ syms, s ≠ [] ∧ s.length ≤ 1000) (hk : 2 ≤ syms.length) (hk2 : syms.length < 1000000) (n : Nat) (hn : n ≤ 2147483648) (hn1 : 1 ≤ n) :
    CallW (CS sum) 79 [d.av, .int .i64 (n : Int)] st fun v st' => v = .tup [.str (if (digs false syms.length n).length ≤ 60 then pick syms (digs false syms.length n) else []), .bool (decide ((digs false syms.length n).length ≤ 60))] ∧ Ext st st' := by
  have hb0 := push_self st (boxO 75 d.av)
  have hext0 : Ext st (st.push (boxO 75 d.av)) := (Ext.refl st).push _
  have hlt0 : st.next < (st.push (boxO 75 d.av)).next := by rw [push_next]; omega
  have hlm : (syms.map strC).length = syms.length := List.length_map _
  refine CallW.enter (hs 79 (by simp) _ _) Tryz.func79 body79 c79_of rfl ?_
  rw [nt79]
  unfold c79
  refine WK.seq ?_
  refine WK.region ?_
  refine WR.op rfl rfl (r_box rfl hd.ok) rfl ?_
  refine WR.op rfl rfl rfl rfl ?_
  refine WR.op rfl rfl rfl rfl ?_
  refine WR.nil ?_
  refine after.seq ?_
  refine WK.seq ?_
  refine WK.seq ?_
  refine WK.region ?_
  refine WR.op rfl rfl (r_ldA agg75 sz75 rfl hb0 (Nat.le_refl 16) rfl) rfl ?_
  refine WR.call (f := 70) («as» := [d.av]) rfl (.inl rfl) rfl rfl rfl rfl ((hmay _ hext0).mono ?_)
  rintro v1 st1 ⟨rfl, k1⟩
  have hb1 : st1.heap.get st.next = some (boxO 75 d.av) := by rw [k1.heap _ hlt0]; exact hb0
  have hln : ∀ {ρ : Rho} {y : Operand}, ρ y = some d.syms → aopR Tryz.prog ρ st1 (.call ⟨.builtin .len, #[y], #[31]⟩) = some (.int .i64 (syms.length : Int), st1) := by
    intro ρ y hy
    rw [← hlm]
    exact r_lenE ⟨_, un31⟩ hy (hsy.ext (hext0.trans k1))
  refine WR.op rfl rfl rfl rfl ?_
  refine WR.op rfl rfl rfl rfl ?_
  refine WR.opG rfl rfl rfl rfl rfl ?_
  refine WR.opG rfl rfl rfl (r_lss rfl rfl (q := false) (by rw [iltb_eq]; simp <;> omega)) rfl ?_
  refine WR.op rfl rfl rfl rfl ?_
  refine WR.op rfl rfl rfl rfl ?_
  refine WR.opG rfl rfl rfl rfl rfl ?_
  refine WR.opG rfl rfl rfl (r_gtr rfl rfl (q := false) (by rw [iltb_eq]; simp <;> omega)) rfl ?_
  refine WR.op rfl rfl rfl rfl ?_
  refine WR.nil ?_
  refine after.seq ?_
  refine WK.cond rfl (fun h => (by cases h)) (fun _ => ?_)
  refine WK.skip ?_
  refine after.seq ?_
  refine WK.seq ?_
  refine WK.region ?_
  refine WR.op rfl rfl (r_fa fo75_3 rfl) rfl ?_
  refine WR.op rfl rfl (r_ld agg31 rfl hb1 rfl) rfl ?_
  refine WR.op rfl rfl (hln rfl) rfl ?_
  refine WR.op rfl rfl rfl rfl ?_
  refine WR.nil ?_
  refine after.seq ?_
  refine WK.seq ?_
  refine WK.seq ?_
  refine WK.region ?_
  refine WR.op rfl rfl (r_fa fo75_1 rfl) rfl ?_
  refine WR.op rfl rfl (r_ld agg9 rfl hb1 rfl) rfl ?_
  refine WR.nil ?_
  refine after.seq ?_
  refine WK.block ?_
  refine WK.seq ?_
  refine WK.region ?_
  refine WR.op rfl rfl (r_seql rfl rfl (q := false) (by rw [hsys]; kernel_rfl)) rfl ?_
  refine WR.op rfl rfl rfl rfl ?_
  refine WR.nil ?_
  refine after.seq ?_
  refine WK.cond rfl (fun h => (by cases h)) (fun _ => ?_)
  refine WK.seq ?_
  refine WK.region ?_
  refine WR.op rfl rfl (r_seql rfl rfl (q := false) (by rw [hsys]; kernel_rfl)) rfl ?_
  refine WR.op rfl rfl rfl rfl ?_
  refine WR.nil ?_
  refine after.seq ?_
  refine WK.cond rfl (fun h => (by cases h)) (fun _ => ?_)
  refine WK.seq ?_
  refine WK.region ?_
  refine WR.op rfl rfl (r_seql rfl rfl (q := false) (by rw [hsys]; kernel_rfl)) rfl ?_
  refine WR.op rfl rfl rfl rfl ?_
  refine WR.nil ?_
  refine after.seq ?_
  refine WK.cond rfl (fun h => (by cases h)) (fun _ => ?_)
  refine WK.seq ?_
  refine WK.region ?_
  refine WR.op rfl rfl (r_seql rfl rfl (q := true) (by rw [hsys]; kernel_rfl)) rfl ?_
  refine WR.op rfl rfl rfl rfl ?_
  refine WR.nil ?_
  refine after.seq ?_
  refine WK.cond rfl (fun _ => ?_) (fun h => (by cases h))
  refine WK.seq ?_
  refine WK.region ?_
  refine WR.op rfl rfl rfl rfl ?_
  refine WR.op rfl rfl (r_geq rfl rfl (q := true) (by rw [iltb_eq]; simp <;> omega)) rfl ?_
  refine WR.nil ?_
  refine after.seq ?_
  refine WK.cond rfl (fun _ => ?_) (fun h => (by cases h))
  refine WK.seq ?_
  refine WK.draw ?_
  have hbr : (resv 9 st1).heap.get st.next = some (boxO 75 d.av) := hb1
  refine WD.read rfl (.inl rfl) rfl (r_ldA agg75 sz75 rfl hbr (Nat.le_refl 16) rfl) rfl ?_
  refine WD.pure rfl (.inl rfl) rfl rfl rfl ?_
  refine WD.pure rfl (.inl rfl) rfl rfl rfl ?_
  refine WD.call (f := 120) rfl (.inl rfl) rfl rfl rfl rfl rfl ((positional_ok (hs 120 (by simp)) hk hk2 false n (by omega) (resv 9 st1)).mono ?_)
  rintro v2 st2 ⟨⟨f2, hrow2, _⟩, k2⟩
  refine WD.call (f := 119) rfl (.inl rfl) rfl rfl rfl rfl rfl ((chosen_ok (fun f hf => hs f (by simp only [List.mem_cons, List.not_mem_nil, or_false] at hf; rcases hf with rfl | rfl | rfl | rfl | rfl | rfl <;> simp)) hd (((hsy.ext (hext0.trans k1)).ext ((Ext.refl st1).resv 9)).ext k2) hrow2 hsm (digs_lt false hk)).mono ?_)
  rintro v3 st3 ⟨rfl, k3⟩
  refine WD.pure rfl (.inl rfl) rfl rfl rfl ?_
  refine WD.pure rfl (.inl rfl) rfl rfl rfl ?_
  refine WD.pure rfl (.inl rfl) rfl rfl rfl ?_
  refine WD.pure rfl (.inl rfl) rfl rfl rfl ?_
  refine WD.nil ⟨.inr ?_, ?_⟩
  · intro e he
    simp only [List.mem_cons, List.not_mem_nil, or_false] at he
    subst he
    refine ⟨hsame, fun S hS => ?_⟩
    rcases mem_need_two hS (by kernel_rfl) with rfl | rfl
    · exact r_ldA agg75 sz75 rfl hbr (Nat.le_refl 16) rfl
    · exact r_ldA (v := d.av) agg75 sz75 rfl (by rw [k2.heap _ (show st.next < (resv 9 st1).next from Nat.lt_of_lt_of_le (Nat.lt_of_lt_of_le hlt0 k1.nx) (Nat.le_add_right _ _))]; exact hbr) (Nat.le_refl 16) rfl
  · refine after.seq ?_
    refine WK.ret ?_
    refine after.block_ret ?_
    refine after.seq_ret ?_
    exact ⟨ret_ne 0, ret_ne, [.str _, .bool _], (by rw [res79]; rfl), rfl, ((hext0.trans k1).trans (((Ext.refl st1).resv 9).trans k2)).trans k3⟩
end Go.Proofs.Tz

namespace Go.Proofs.Tz
open Go Go.AE Go.RowKit Go.Proofs
set_option maxRecDepth 100000
variable {sum : FuncId → List AV → St → Option (AV × St)}
theorem r_neg {P : Program} {ρ : Rho} {st : St} {t : TypeId} {x : Operand} {n : Int} (hx : ρ x = some (.int .i64 n)) (h1 : -4294967296 ≤ n) (h2 : n ≤ 4294967296) : aopR P ρ st (.unOp .neg t x) = some (.int .i64 (-n), st) := by
  have this : IntKind.wrap .i64 (0 - n) = -n := by
    rw [IntWalk.i64_in _ (by omega)]
    omega
  have h : AE.unOp .neg (.int .i64 n) = some (.int .i64 (-n)) := by
    simp only [AE.unOp, this]
  simp only [aopR, hx, bnd_some, h]
/-- fleuron/registry.signs -/
def c47 : SC := (.seq (.region [⟨.box 75 (.tmp 0), some 2, none⟩, ⟨.assign (.const (.string ⟨#[]⟩)), some 4, none⟩, ⟨.assign (.const (.bool false)), some 5, none⟩])
  (.seq (.seq (.region [⟨.load 75 (.tmp 2), some 6, none⟩, ⟨.move (.tmp 1), some 7, none⟩, ⟨.call ⟨.value (.func 78), #[(.tmp 6), (.tmp 7)], #[75, 3]⟩, some 8, none⟩, ⟨.unOp .not 4 (.tmp 8), some 9, none⟩])
  (.cond (.tmp 9) (.seq (.region [⟨.assign (.const (.string ⟨#[]⟩)), some 4, none⟩, ⟨.assign (.const (.bool false)), some 5, none⟩])
  .ret) .skip))
  (.seq (.seq (.region [⟨.load 75 (.tmp 2), some 10, none⟩, ⟨.move (.tmp 1), some 11, none⟩, ⟨.call ⟨.value (.func 48), #[(.tmp 10), (.tmp 11)], #[75, 3]⟩, some 12, none⟩])
  (.cond (.tmp 12) (.region [⟨.move (.tmp 1), some 13, none⟩, ⟨.unOp .neg 3 (.tmp 13), some 14, none⟩, ⟨.assign (.tmp 14), some 1, none⟩]) .skip))
  (.seq (.region [⟨.load 75 (.tmp 2), some 15, none⟩, ⟨.move (.tmp 1), some 16, none⟩, ⟨.call ⟨.value (.func 79), #[(.tmp 15), (.tmp 16)], #[75, 3]⟩, some 17, none⟩, ⟨.extract (.tmp 17) 0, some 18, none⟩, ⟨.extract (.tmp 17) 1, some 19, none⟩, ⟨.assign (.tmp 18), some 4, none⟩, ⟨.assign (.tmp 19), some 5, none⟩])
  .ret))))
theorem c47_of : SC.of Tryz.f47.body.get! = c47 := by kernel_rfl
theorem body47 : Tryz.f47.body = some (Tryz.f47.body.get!) := by kernel_rfl
theorem nt47 : Tryz.f47.ntmps = 20 := by kernel_rfl
theorem res47 : Tryz.f47.results.toList = [.tmp 4, .tmp 5] := by kernel_rfl
theorem signs_ok (hs : ∀ f ∈ [47, 48, 78, 111, 160, 118], ∀ xs st, sum f xs st = none) {d : D} (hd : d.Plain) {ps : List (Int × Int)} {st : St} {n : Int} (h1 : -2147483648 ≤ n) (h2 : n ≤ 2147483647) (hlen : ps.length < 1000000) (hx : d.auto = false → Els st d.range 2 (ps.map pairC)) {r : List UInt8} {q : Bool}
    (hS : inB d ps n = true → ∀ st', Ext st st' → CallW (CS sum) 79 [d.av, .int .i64 (if usesB d.sys n = true then -n else n)] st' fun v st2 => v = .tup [.str r, .bool q] ∧ Ext st' st2) :
    CallW (CS sum) 47 [d.av, .int .i64 n] st fun v st' => v = .tup [.str (if inB d ps n = true then r else []), .bool (inB d ps n && q)] ∧ Ext st st' := by
  have hb0 := push_self st (boxO 75 d.av)
  have hext0 : Ext st (st.push (boxO 75 d.av)) := (Ext.refl st).push _
  have hlt0 : st.next < (st.push (boxO 75 d.av)).next := by rw [push_next]; omega
  refine CallW.enter (hs 47 (by simp) _ _) Tryz.func47 body47 c47_of rfl ?_
  rw [nt47]
  unfold c47
  refine WK.seq ?_
  refine WK.region ?_
  refine WR.op rfl rfl (r_box rfl hd.ok) rfl ?_
  refine WR.op rfl rfl rfl rfl ?_
  refine WR.op rfl rfl rfl rfl ?_
  refine WR.nil ?_
  refine after.seq ?_
  refine WK.seq ?_
  refine WK.seq ?_
  refine WK.region ?_
  refine WR.op rfl rfl (r_ldA agg75 sz75 rfl hb0 (Nat.le_refl 16) rfl) rfl ?_
  refine WR.op rfl rfl rfl rfl ?_
  refine WR.call (f := 78) («as» := [d.av, .int .i64 n]) rfl (.inl rfl) rfl rfl rfl rfl ((in_ok (fun f hf => hs f (by simp only [List.mem_cons, List.not_mem_nil, or_false] at hf; rcases hf with rfl | rfl | rfl | rfl <;> simp)) hd n hlen (fun h => (hx h).ext hext0)).mono ?_)
  rintro v1 st1 ⟨rfl, k1⟩
  have hb1 : st1.heap.get st.next = some (boxO 75 d.av) := by rw [k1.heap _ hlt0]; exact hb0
  refine WR.op rfl rfl rfl rfl ?_
  refine WR.nil ?_
  refine after.seq ?_
  refine WK.cond rfl (fun hc9_1 => ?_) (fun hc9_1 => ?_)
  · refine WK.seq ?_
    refine WK.region ?_
    refine WR.op rfl rfl rfl rfl ?_
    refine WR.op rfl rfl rfl rfl ?_
    refine WR.nil ?_
    refine after.seq ?_
    refine WK.ret ?_
    refine after.seq_ret ?_
    refine ⟨ret_ne 0, ret_ne, [.str [], .bool false], (by rw [res47]; rfl), ?_, hext0.trans k1⟩
    have hi : inB d ps n = false := by simpa using hc9_1
    rw [hi]
    rfl
  · refine WK.skip ?_
    refine after.seq ?_
    refine WK.seq ?_
    refine WK.seq ?_
    refine WK.region ?_
    refine WR.op rfl rfl (r_ldA agg75 sz75 rfl hb1 (Nat.le_refl 16) rfl) rfl ?_
    refine WR.op rfl rfl rfl rfl ?_
    refine WR.call (f := 48) («as» := [d.av, .int .i64 n]) rfl (.inl rfl) rfl rfl rfl rfl ((uses_ok (hs 48 (by simp)) hd n st1).mono ?_)
    rintro v2 st2 ⟨rfl, k2⟩
    have hi : inB d ps n = true := by simpa using hc9_1
    have hb2 : st2.heap.get st.next = some (boxO 75 d.av) := by rw [k2.heap _ (Nat.lt_of_lt_of_le hlt0 k1.nx)]; exact hb1
    refine WR.nil ?_
    refine after.seq ?_
    refine WK.cond rfl (fun hc12_2 => ?_) (fun hc12_2 => ?_)
    · refine WK.region ?_
      refine WR.op rfl rfl rfl rfl ?_
      refine WR.op rfl rfl (r_neg rfl (by omega) (by omega)) rfl ?_
      refine WR.op rfl rfl rfl rfl ?_
      refine WR.nil ?_
      refine after.seq ?_
      refine WK.seq ?_
      refine WK.region ?_
      refine WR.op rfl rfl (r_ldA agg75 sz75 rfl hb2 (Nat.le_refl 16) rfl) rfl ?_
      refine WR.op rfl rfl rfl rfl ?_
      have hm : (if usesB d.sys n = true then -n else n) = -n := by rw [hc12_2]; rfl
      have hS2 := hS hi _ ((hext0.trans k1).trans k2)
      rw [hm] at hS2
      refine WR.call (f := 79) («as» := [d.av, .int .i64 (-n)]) rfl (.inl rfl) rfl rfl rfl rfl (hS2.mono ?_)
      rintro v3 st3 ⟨rfl, k3⟩
      refine WR.op rfl rfl rfl rfl ?_
      refine WR.op rfl rfl rfl rfl ?_
      refine WR.op rfl rfl rfl rfl ?_
      refine WR.op rfl rfl rfl rfl ?_
      refine WR.nil ?_
      refine after.seq ?_
      refine WK.ret ?_
      refine ⟨ret_ne 0, ret_ne, [.str r, .bool q], (by rw [res47]; rfl), ?_, ((hext0.trans k1).trans k2).trans k3⟩
      rw [hi, Bool.true_and, if_pos rfl]
      rfl
    · refine WK.skip ?_
      refine after.seq ?_
      refine WK.seq ?_
      refine WK.region ?_
      refine WR.op rfl rfl (r_ldA agg75 sz75 rfl hb2 (Nat.le_refl 16) rfl) rfl ?_
      refine WR.op rfl rfl rfl rfl ?_
      have hm : (if usesB d.sys n = true then -n else n) = n := by rw [hc12_2]; rfl
      have hS2 := hS hi _ ((hext0.trans k1).trans k2)
      rw [hm] at hS2
      refine WR.call (f := 79) («as» := [d.av, .int .i64 (n)]) rfl (.inl rfl) rfl rfl rfl rfl (hS2.mono ?_)
      rintro v3 st3 ⟨rfl, k3⟩
      refine WR.op rfl rfl rfl rfl ?_
      refine WR.op rfl rfl rfl rfl ?_
      refine WR.op rfl rfl rfl rfl ?_
      refine WR.op rfl rfl rfl rfl ?_
      refine WR.nil ?_
      refine after.seq ?_
      refine WK.ret ?_
      refine ⟨ret_ne 0, ret_ne, [.str r, .bool q], (by rw [res47]; rfl), ?_, ((hext0.trans k1).trans k2).trans k3⟩
      rw [hi, Bool.true_and, if_pos rfl]
      rfl
end Go.Proofs.Tz
