/- strings.Builder: Grow, and no sign written. -/
import Derived.Test.YtjnahfpnehmehaaGreatDoorRegB
import Derived.Test.YtjnahfpnehmehaaGreatDoorAeSet
namespace Go.Proofs.Tz
open Go Go.AE Go.RowKit Go.Proofs
set_option maxRecDepth 100000
variable {sum : FuncId → List AV → St → Option (AV × St)}
theorem beq_same (n : Nat) : Nat.beq n n = true := AE.beq_true.2 rfl
theorem mem_need2 {T S : St} {i bi : Nat} : ∀ {h : Hist}, T ∈ need i bi h S → T = S ∨ ∃ p ∈ h, T = p.2.2
  | [], h => by
    simp only [need, List.mem_singleton] at h
    exact .inl h
  | (e, be, S') :: r, h => by
    simp only [need, List.mem_append] at h
    rcases h with h | h
    · cases hq : anyIn bi ((e, be, S') :: r) with
      | true => rw [hq] at h; cases h
      | false => rw [hq] at h; exact .inl (List.mem_singleton.1 h)
    · cases hq : be.testBit i with
      | true => rw [hq] at h; cases h
      | false =>
        rw [hq, cond_false] at h
        rcases mem_need2 h with h | ⟨p, h1, h2⟩
        · exact .inr ⟨_, List.mem_cons_self, h⟩
        · exact .inr ⟨p, List.mem_cons_of_mem _ h1, h2⟩
theorem mem_need_after {T S S1 : St} {i bi e1 b1 : Nat} (h : T ∈ need i bi [(e1, b1, S1)] S) (h1 : bi.testBit e1 = true) (h2 : b1.testBit i = false) : T = S1 := by
  have hq : anyIn bi [(e1, b1, S1)] = true := by simp [anyIn, h1]
  simp only [need, hq, h2, cond_true, cond_false, List.nil_append, List.mem_singleton] at h
  exact h
theorem appNone_row {st : St} {x : AV} {f e bytes : Nat} {l : List (List AV)} (h : IsRow st x f e 1 l) : appendTo st e 1 bytes 0 x [] = some (x, st) := by
  rcases h with ⟨rfl, _⟩ | ⟨m, rfl, _, _, hr⟩
  · rfl
  · obtain ⟨t, room, h1, _⟩ := hr.cells
    have hg : (Nat.beq 1 1 && isOpn (.opn f) && Nat.ble (Nat.add 0 (Nat.mul l.length 1)) (Nat.mul (max room l.length) 1)) = true := by
      show (true && true && _) = true
      rw [Bool.true_and, Bool.true_and, ble_true]
      show 0 + l.length * 1 ≤ max room l.length * 1
      omega
    have h2 : appendNone st 1 (.slc m 0 l.length none) m 0 l.length none = some (.slc m 0 l.length none, st) := by
      unfold appendNone
      simp only [h1, bnd_some, hg, cnd_true]
    exact h2
theorem writeNil_ok (hs : ∀ f ∈ [42, 77, 117], ∀ xs st, sum f xs st = none) {b f : Nat} {l : List UInt8} {st0 st : St} (h : BldG st0.next st b f l) (h0 : Ext st0 st) (hb : st0.next ≤ b) :
    CallW (CS sum) 42 [.ptr b 0, .str []] st fun _ st' => BldG st0.next st' b f l ∧ Ext st0 st' ∧ Kept b f st st' := by
  obtain ⟨hbl, a, x, h1, h2, h3, h4⟩ := h
  refine CallW.enter (hs 42 (by simp) _ _) Tryz.func42 body42 c42_of rfl ?_
  rw [nt42]
  unfold c42
  refine WK.seq ?_
  refine WK.region ?_
  refine WR.op rfl rfl rfl rfl ?_
  refine WR.op rfl rfl rfl rfl ?_
  refine WR.nil ?_
  refine after.seq ?_
  refine WK.seq ?_
  refine WK.region ?_
  refine WR.op rfl rfl rfl rfl ?_
  refine WR.call (f := 77) («as» := [.ptr b 0]) rfl (.inl rfl) rfl rfl rfl rfl ((copyCheck_ok (hs 77 (by simp)) (hs 117 (by simp)) h1 h2).mono ?_)
  rintro v1 st1 ⟨k1, k2⟩
  have h3' := row_but h3 h1 k2
  have h0' := ext_but h0 hb k1 k2
  have hxp : x.plain = true := by
    rcases h3 with ⟨rfl, _⟩ | ⟨m, rfl, _⟩ <;> rfl
  have hset : (st1.setObj b (boxO 106 (.agg [.ptr b 0, x]))).heap.get b = some (boxO 106 (.agg [.ptr b 0, x])) := by rw [set_get, if_pos rfl]
  have hbut : But b st1 (st1.setObj b (boxO 106 (.agg [.ptr b 0, x]))) := ⟨fun k hk => by rw [set_get, if_neg hk], set_fams _ _ _, set_next _ _ _⟩
  refine WR.nil ?_
  refine after.seq ?_
  refine WK.seq ?_
  refine WK.region ?_
  refine WR.op rfl rfl rfl rfl ?_
  refine WR.op rfl rfl rfl rfl ?_
  refine WR.op rfl rfl rfl rfl ?_
  refine WR.op rfl rfl (r_fa fo106_1 rfl) rfl ?_
  refine WR.op rfl rfl (r_ld agg26 rfl k1 rfl) rfl ?_
  refine WR.op rfl rfl rfl rfl ?_
  refine WR.op rfl rfl ((r_appStr (s := []) un26 un9 sz5 by5 ze5 rfl rfl).trans (appNone_row h3')) rfl ?_
  refine WR.op rfl rfl rfl rfl ?_
  refine WR.op rfl rfl (r_fa fo106_1 rfl) rfl ?_
  refine WR.op0 rfl rfl (r_stF sz26 rfl rfl k1 (show 1 < 2 by decide) hxp) ?_
  refine WR.nil ?_
  refine after.seq ?_
  refine WK.seq ?_
  refine WK.region ?_
  refine WR.op rfl rfl rfl rfl ?_
  refine WR.op rfl rfl (r_len_str un9 rfl) rfl ?_
  refine WR.op rfl rfl rfl rfl ?_
  refine WR.op rfl rfl rfl rfl ?_
  refine WR.nil ?_
  refine after.seq ?_
  refine WK.ret ?_
  refine ⟨ret_ne 0, ret_ne, [.int .i64 0, .nili], (by rw [res42]; rfl), ⟨?_, .ptr b 0, x, hset, .inr rfl, row_but h3' k1 hbut, ?_⟩, ext_but h0' hb hset hbut, ?_, fun k hk hlt => ?_, fun k hk hlt => ?_⟩
  · show b < (st1.setObj b _).next
    rw [set_next, k2.nx]; exact hbl
  · refine h4.imp id fun ⟨q1, F, q3, q4⟩ => ⟨q1, F, ?_, q4⟩
    show (st1.setObj b _).fams.get f = _
    rw [set_fams, k2.fams]; exact q3
  · show st.next ≤ (st1.setObj b _).next
    rw [set_next, k2.nx]; exact Nat.le_refl _
  · show (st1.setObj b _).heap.get k = _
    rw [set_get, if_neg hk, k2.heap k hk]
  · show (st1.setObj b _).fams.get k = _
    rw [set_fams, k2.fams]
theorem add_z {n : Nat} (hn : n ≤ 1000000) : intBin .add .i64 (wrapF .i64 (Int.mul 2 0)) (n : Int) = some (.int .i64 (n : Int)) := by
  have := add_nat (a := 0) (b := n) (by omega)
  rw [Nat.zero_add] at this
  exact this
theorem body165 : Tryz.f165.body = none := by kernel_rfl
theorem ext165 (n : Nat) (hn : n ≤ 1000000) (st : St) : AE.extern Tryz.prog Tryz.f165 (ext 165) [.int .i64 (n : Int)] st = some (.slc st.next 0 n none, stNew st 5 1 [] n 0) := by
  have hx : ext 165 = .makeNoZero := by kernel_rfl
  have hr : Tryz.f165.resultTypes.toList = [26] := by kernel_rfl
  have hg : (Nat.ble n 1073741824 && (match und Tryz.prog 5 with | some (.int .u8) => true | _ => false)) = true := by
    rw [show und Tryz.prog 5 = some (.int .u8) from by kernel_rfl]
    show (Nat.ble n 1073741824 && true) = true
    rw [Bool.and_true, ble_true]; omega
  rw [hx]
  show (match Tryz.f165.resultTypes.toList with
    | t :: _ => match und Tryz.prog t with
      | some (.slice e) => bif Nat.ble n 1073741824 && (match und Tryz.prog e with | some (.int .u8) => true | _ => false) then (newOpen st e 1 0 [] n 0).bnd fun r => some (AV.slc r.1 0 n none, r.2) else none
      | _ => none
    | _ => none) = _
  rw [hr]
  simp only [un26]
  rw [hg, cond_true, newOpen_is (es := []) rfl]
  rfl
theorem r_capnil {P : Program} {ρ : Rho} {st : St} {t : TypeId} {x : Operand} (ht : ∃ e, und P t = some (.slice e)) (hx : ρ x = some .nils) : aopR P ρ st (.call ⟨.builtin .cap, #[x], #[t]⟩) = some (.int .i64 0, st) := by
  obtain ⟨e, ht⟩ := ht
  simp only [aopR, evsR, hx, bnd_some, builtinOp, capB, ht]
theorem r_lennil {P : Program} {ρ : Rho} {st : St} {t : TypeId} {x : Operand} (ht : ∃ e, und P t = some (.slice e)) (hx : ρ x = some .nils) : aopR P ρ st (.call ⟨.builtin .len, #[x], #[t]⟩) = some (.int .i64 0, st) := by
  obtain ⟨e, ht⟩ := ht
  simp only [aopR, evsR, hx, bnd_some, builtinOp, lenB, ht]
theorem r_slice0 {ρ : Rho} {st : St} {x y : Operand} {m n f room : Nat} (hx : ρ x = some (.slc m 0 n none)) (hy : ρ y = some (.int .i64 0)) (hc : cellsOf st m = some ⟨5, 1, .nil, 0, room, .opn f⟩) : aopR Tryz.prog ρ st (.slice 26 x none (some y) none) = some (.slc m 0 0 none, st) := by
  have h1 : sliceOpen m 0 n 1 (Nat.beq 1 1 && isOpn (.opn f)) ((Nat.mul (max room 0) 1 - 0) / 1) none (some (.int .i64 0)) none = some (.slc m 0 0 none) := rfl
  simp only [aopR, evOR, hx, hy, bnd_some, sliceOp, un26, sz5]
  show ((cnd (Nat.ble 1 1) (sliceSlc st 1 m 0 n none none (some (.int .i64 0)) none) none).bnd _) = _
  have h2 : sliceSlc st 1 m 0 n none none (some (.int .i64 0)) none = some (.slc m 0 0 none) := by
    unfold sliceSlc
    simp only [hc, bnd_some]
    exact h1
  rw [h2]; rfl
/-- (*strings.Builder).grow -/
def c125 : SC := (.seq (.draw [⟨.move (.tmp 0), some 5, none⟩, ⟨.nilCheck (.tmp 5), some 6, none⟩, ⟨.fieldAddr 106 (.tmp 6) 1, some 7, none⟩, ⟨.load 26 (.tmp 7), some 8, none⟩, ⟨.call ⟨.builtin .cap, #[(.tmp 8)], #[26]⟩, some 9, none⟩, ⟨.binOp .mul 3 (.const (.int .i64 2)) (.tmp 9) 3, some 10, none⟩, ⟨.move (.tmp 1), some 11, none⟩, ⟨.binOp .add 3 (.tmp 10) (.tmp 11) 3, some 12, none⟩, ⟨.call ⟨.value (.func 165), #[(.tmp 12)], #[3]⟩, some 13, none⟩, ⟨.move (.tmp 0), some 14, none⟩, ⟨.nilCheck (.tmp 14), some 15, none⟩, ⟨.fieldAddr 106 (.tmp 15) 1, some 16, none⟩, ⟨.load 26 (.tmp 16), some 17, none⟩, ⟨.call ⟨.builtin .len, #[(.tmp 17)], #[26]⟩, some 18, none⟩, ⟨.slice 26 (.tmp 13) none (some (.tmp 18)) none, some 19, none⟩, ⟨.assign (.tmp 19), some 4, none⟩] [0, 1, 3, 7, 15, 31, 0, 127, 255, 0, 512, 1536, 3584, 7680, 16383, 32767] true)
  (.seq (.region [⟨.move (.tmp 4), some 20, none⟩, ⟨.move (.tmp 0), some 21, none⟩, ⟨.nilCheck (.tmp 21), some 22, none⟩, ⟨.fieldAddr 106 (.tmp 22) 1, some 23, none⟩, ⟨.load 26 (.tmp 23), some 24, none⟩, ⟨.call ⟨.builtin .copy, #[(.tmp 20), (.tmp 24)], #[26, 26]⟩, some 25, none⟩])
  (.region [⟨.move (.tmp 0), some 26, none⟩, ⟨.move (.tmp 4), some 27, none⟩, ⟨.nilCheck (.tmp 26), some 28, none⟩, ⟨.fieldAddr 106 (.tmp 28) 1, some 29, none⟩, ⟨.store 26 (.tmp 29) (.tmp 27), none, none⟩])))
theorem c125_of : SC.of Tryz.f125.body.get! = c125 := by kernel_rfl
theorem body125 : Tryz.f125.body = some (Tryz.f125.body.get!) := by kernel_rfl
theorem nt125 : Tryz.f125.ntmps = 30 := by kernel_rfl
theorem res125 : Tryz.f125.results.toList = [] := by kernel_rfl
/-- (*strings.Builder).Grow -/
def c82 : SC := (.seq (.region [⟨.move (.tmp 0), some 4, none⟩, ⟨.call ⟨.value (.func 77), #[(.tmp 4)], #[104]⟩, some 5, none⟩])
  (.seq (.seq (.region [⟨.move (.tmp 1), some 6, none⟩, ⟨.binOp .lss 3 (.tmp 6) (.const (.int .i64 0)) 3, some 7, none⟩])
  (.cond (.tmp 7) (.region [⟨.makeInterface 9 (.const (.string ⟨#[115, 116, 114, 105, 110, 103, 115, 46, 66, 117, 105, 108, 100, 101, 114, 46, 71, 114, 111, 119, 58, 32, 110, 101, 103, 97, 116, 105, 118, 101, 32, 99, 111, 117, 110, 116]⟩)), some 8, none⟩, ⟨.panic (.tmp 8), none, none⟩]) .skip))
  (.seq (.draw [⟨.move (.tmp 0), some 9, none⟩, ⟨.nilCheck (.tmp 9), some 10, none⟩, ⟨.fieldAddr 106 (.tmp 10) 1, some 11, none⟩, ⟨.load 26 (.tmp 11), some 12, none⟩, ⟨.call ⟨.builtin .cap, #[(.tmp 12)], #[26]⟩, some 13, none⟩, ⟨.move (.tmp 0), some 14, none⟩, ⟨.nilCheck (.tmp 14), some 15, none⟩, ⟨.fieldAddr 106 (.tmp 15) 1, some 16, none⟩, ⟨.load 26 (.tmp 16), some 17, none⟩, ⟨.call ⟨.builtin .len, #[(.tmp 17)], #[26]⟩, some 18, none⟩, ⟨.binOp .sub 3 (.tmp 13) (.tmp 18) 3, some 19, none⟩, ⟨.move (.tmp 1), some 20, none⟩, ⟨.binOp .lss 3 (.tmp 19) (.tmp 20) 3, some 21, none⟩] [0, 1, 3, 7, 15, 0, 32, 96, 224, 480, 1023, 0, 4095] true)
  (.cond (.tmp 21) (.region [⟨.move (.tmp 0), some 22, none⟩, ⟨.move (.tmp 1), some 23, none⟩, ⟨.call ⟨.value (.func 125), #[(.tmp 22), (.tmp 23)], #[104, 3]⟩, some 24, none⟩]) .skip))))
theorem c82_of : SC.of Tryz.f82.body.get! = c82 := by kernel_rfl
theorem body82 : Tryz.f82.body = some (Tryz.f82.body.get!) := by kernel_rfl
theorem nt82 : Tryz.f82.ntmps = 25 := by kernel_rfl
theorem res82 : Tryz.f82.results.toList = [] := by kernel_rfl
/-- A text that is to be built, its room made. -/
theorem grow1_ok (hs : ∀ f ∈ [125, 165], ∀ xs st, sum f xs st = none) {b n : Nat} {st : St} (h : st.heap.get b = some (boxO 106 (.agg [.ptr b 0, .nils]))) (hbl : b < st.next) (hn : n ≤ 1000000) :
    CallW (CS sum) 125 [.ptr b 0, .int .i64 (n : Int)] st fun _ st' => st'.heap.get b = some (boxO 106 (.agg [.ptr b 0, .slc (st.next + 16) 0 0 none])) ∧ RowAt st' (st.next + 16) (st.next + 16) 5 1 [] ∧ (∃ F, st'.fams.get (st.next + 16) = some F ∧ F.mark < 2) ∧ st.next + 17 ≤ st'.next ∧ ∃ st1, Ext st st1 ∧ But b st1 st' := by
  have hr1 : (resv 16 st).heap.get b = some (boxO 106 (.agg [.ptr b 0, .nils])) := h
  have hnr : (resv 16 st).next = st.next + 16 := rfl
  obtain ⟨st2, hst2⟩ : ∃ s, s = stNew (resv 16 st) 5 1 [] n 0 := ⟨_, rfl⟩
  have hx2 : Ext st st2 := by rw [hst2]; exact ((Ext.refl st).resv 16).new _ _ _ _ _
  have hn2 : st2.next = st.next + 17 := by rw [hst2]; rfl
  have hrow : RowAt st2 (st.next + 16) (st.next + 16) 5 1 [] := by rw [hst2]; exact stNew_row (resv 16 st) 5 1 [] n 0
  have hb2 : st2.heap.get b = some (boxO 106 (.agg [.ptr b 0, .nils])) := by rw [hx2.heap b hbl]; exact h
  have hcel : cellsOf st2 (st.next + 16) = some ⟨5, 1, .nil, 0, n, .opn (st.next + 16)⟩ := by
    obtain ⟨t, room, k1, _⟩ := hrow.cells
    have k2 : st2.heap.get (st.next + 16) = some (.cells ⟨5, 1, .nil, 0, n, .opn (st.next + 16)⟩) := by
      rw [hst2]
      show ((resv 16 st).heap.set (st.next + 16) _).get (st.next + 16) = _
      exact T.get_set_same _ _ _
    obtain ⟨k3, _⟩ := cellsOf_eq.1 k1
    rw [k2] at k3
    rw [k1, ← AObj.cells.inj (Option.some.inj k3)]
  have hce : AE.extern Tryz.prog Tryz.f165 (ext 165) [.int .i64 (n : Int)] (resv 16 st) = some (.slc (st.next + 16) 0 n none, st2) := by
    rw [hst2]; exact ext165 n hn _
  have hfam : ∃ F, st2.fams.get (st.next + 16) = some F ∧ F.mark < 2 := ⟨⟨st.next + 16, st.next + 16, 0⟩, by
    rw [hst2]
    show ((resv 16 st).fams.set (st.next + 16) _).get (st.next + 16) = _
    exact T.get_set_same _ _ _, show 0 < 2 by decide⟩
  refine CallW.enter (hs 125 (by simp) _ _) Tryz.func125 body125 c125_of rfl ?_
  rw [nt125]
  unfold c125
  refine WK.seq ?_
  refine WK.draw ?_
  refine WD.pure rfl (.inl rfl) rfl rfl rfl ?_
  refine WD.pure rfl (.inl rfl) rfl rfl rfl ?_
  refine WD.pure rfl (.inl rfl) rfl (r_fa fo106_1 rfl) rfl ?_
  refine WD.read rfl (.inl rfl) rfl (r_ld agg26 rfl hr1 rfl) rfl ?_
  refine WD.read rfl (.inl rfl) rfl (r_capnil ⟨_, un26⟩ rfl) rfl ?_
  refine WD.pure rfl (.inl rfl) rfl rfl rfl ?_
  refine WD.pure rfl (.inl rfl) rfl rfl rfl ?_
  refine WD.pure rfl (.inl rfl) rfl (r_arith ⟨by decide, by decide⟩ rfl rfl (add_z hn)) rfl ?_
  refine WD.call (f := 165) (xs := [.int .i64 (n : Int)]) rfl (.inl rfl) rfl rfl rfl rfl rfl (CallW.mono (K := fun v s' => v = .slc (st.next + 16) 0 n none ∧ s' = st2) (CallW.extern (hs 165 (by simp) _ _) Tryz.func165 body165 hce ⟨rfl, rfl⟩) ?_)
  rintro _ s2 ⟨rfl, h2⟩
  rw [h2]
  refine WD.pure rfl (.inl rfl) rfl rfl rfl ?_
  refine WD.pure rfl (.inl rfl) rfl rfl rfl ?_
  refine WD.pure rfl (.inl rfl) rfl (r_fa fo106_1 rfl) rfl ?_
  refine WD.read rfl (.inl rfl) rfl (r_ld agg26 rfl hb2 rfl) rfl ?_
  refine WD.read rfl (.inl rfl) rfl (r_lennil ⟨_, un26⟩ rfl) rfl ?_
  refine WD.read rfl (.inl rfl) rfl (r_slice0 (n := n) rfl rfl hcel) rfl ?_
  refine WD.pure rfl (.inl rfl) rfl rfl rfl ?_
  refine WD.nil ⟨.inr ?_, ?_⟩
  · have hm : ∀ {i bi : Nat} {T : St}, T ∈ need i bi ([(8, 255, st2)] : Hist).reverse (resv 16 st) → T = resv 16 st ∨ T = st2 := by
      intro i bi T hT
      rcases mem_need2 hT with h | ⟨q, hq, h⟩
      · exact .inl h
      · simp only [List.reverse_cons, List.reverse_nil, List.nil_append, List.mem_cons, List.not_mem_nil, or_false] at hq
        subst hq
        exact .inr h
    have hbb : ∀ {T : St}, T = resv 16 st ∨ T = st2 → T.heap.get b = some (boxO 106 (.agg [.ptr b 0, .nils])) := fun h => h.elim (fun e => by rw [e]; exact hr1) (fun e => by rw [e]; exact hb2)
    intro e he
    simp only [List.mem_cons, List.not_mem_nil, or_false] at he
    rcases he with rfl | rfl | rfl | rfl | rfl
    · refine ⟨by simp [sameV, sameA, same1, optEq], fun S hS => ?_⟩
      rw [mem_need_after hS (by kernel_rfl) (by kernel_rfl)]
      exact r_slice0 (n := n) rfl rfl hcel
    · exact ⟨rfl, fun S hS => r_lennil ⟨_, un26⟩ rfl⟩
    · exact ⟨rfl, fun S hS => r_ld agg26 rfl (hbb (hm hS)) rfl⟩
    · exact ⟨rfl, fun S hS => r_capnil ⟨_, un26⟩ rfl⟩
    · exact ⟨rfl, fun S hS => r_ld agg26 rfl (hbb (hm hS)) rfl⟩
  · refine after.seq ?_
    refine WK.seq ?_
    refine WK.region ?_
    refine WR.op rfl rfl rfl rfl ?_
    refine WR.op rfl rfl rfl rfl ?_
    refine WR.op rfl rfl rfl rfl ?_
    refine WR.op rfl rfl (r_fa fo106_1 rfl) rfl ?_
    refine WR.op rfl rfl (r_ld agg26 rfl hb2 rfl) rfl ?_
    refine WR.op rfl rfl rfl rfl ?_
    refine WR.nil ?_
    refine after.seq ?_
    refine WK.region ?_
    refine WR.op rfl rfl rfl rfl ?_
    refine WR.op rfl rfl rfl rfl ?_
    refine WR.op rfl rfl rfl rfl ?_
    refine WR.op rfl rfl (r_fa fo106_1 rfl) rfl ?_
    refine WR.op0 rfl rfl (r_stF sz26 rfl rfl hb2 (show 1 < 2 by decide) rfl) ?_
    refine WR.nil ?_
    have hset : (st2.setObj b (boxO 106 (.agg [.ptr b 0, .slc (st.next + 16) 0 0 none]))).heap.get b = some (boxO 106 (.agg [.ptr b 0, .slc (st.next + 16) 0 0 none])) := by rw [set_get, if_pos rfl]
    refine ⟨normal_ne 0, normal_ne, [], (by rw [res125]; rfl), hset, ?_, ?_, ?_, st2, hx2, fun k hk => by show (st2.setObj b _).heap.get k = _; rw [set_get, if_neg hk], set_fams _ _ _, set_next _ _ _⟩
    · refine ⟨?_, ?_⟩
      · obtain ⟨t, room, k1, k2⟩ := hrow.blk
        exact ⟨t, room, by show (st2.setObj b _).heap.get _ = _; rw [set_get, if_neg (by omega)]; exact k1, k2⟩
      · obtain ⟨F, k1, k2⟩ := hrow.fam
        exact ⟨F, by show (st2.setObj b _).fams.get _ = _; rw [set_fams]; exact k1, k2⟩
    · obtain ⟨F, k1, k2⟩ := hfam
      exact ⟨F, by show (st2.setObj b _).fams.get _ = _; rw [set_fams]; exact k1, k2⟩
    · show st.next + 17 ≤ (st2.setObj b _).next
      rw [set_next]; omega
theorem Grow_ok (hs : ∀ f ∈ [82, 125, 165, 77, 117], ∀ xs st, sum f xs st = none) {b n : Nat} {a : AV} {st st0 : St} (h : st.heap.get b = some (boxO 106 (.agg [a, .nils]))) (ha : a = .nilp ∨ a = .ptr b 0) (hbl : b < st.next) (h0 : Ext st0 st) (hb : st0.next ≤ b) (hn0 : 1 ≤ n) (hn : n ≤ 1000000) :
    CallW (CS sum) 82 [.ptr b 0, .int .i64 (n : Int)] st fun _ st' => (∃ f', BldG st0.next st' b f' []) ∧ Ext st0 st' := by
  refine CallW.enter (hs 82 (by simp) _ _) Tryz.func82 body82 c82_of rfl ?_
  rw [nt82]
  unfold c82
  refine WK.seq ?_
  refine WK.region ?_
  refine WR.op rfl rfl rfl rfl ?_
  refine WR.call (f := 77) («as» := [.ptr b 0]) rfl (.inl rfl) rfl rfl rfl rfl ((copyCheck_ok (hs 77 (by simp)) (hs 117 (by simp)) h ha).mono ?_)
  rintro v1 st1 ⟨k1, k2⟩
  have h1' := ext_but h0 hb k1 k2
  refine WR.nil ?_
  refine after.seq ?_
  refine WK.seq ?_
  refine WK.seq ?_
  refine WK.region ?_
  refine WR.op rfl rfl rfl rfl ?_
  refine WR.op rfl rfl (r_lss (q := false) rfl rfl (by rw [iltb_eq]; exact decide_eq_false (by omega))) rfl ?_
  refine WR.nil ?_
  refine after.seq ?_
  refine WK.cond rfl (fun h => (by cases h)) (fun _ => ?_)
  refine WK.skip ?_
  refine after.seq ?_
  refine WK.seq ?_
  refine WK.draw ?_
  have hr1 : (resv 13 st1).heap.get b = some (boxO 106 (.agg [.ptr b 0, .nils])) := k1
  refine WD.pure rfl (.inl rfl) rfl rfl rfl ?_
  refine WD.pure rfl (.inl rfl) rfl rfl rfl ?_
  refine WD.pure rfl (.inl rfl) rfl (r_fa fo106_1 rfl) rfl ?_
  refine WD.read rfl (.inl rfl) rfl (r_ld agg26 rfl hr1 rfl) rfl ?_
  refine WD.read rfl (.inl rfl) rfl (r_capnil ⟨_, un26⟩ rfl) rfl ?_
  refine WD.pure rfl (.inl rfl) rfl rfl rfl ?_
  refine WD.pure rfl (.inl rfl) rfl rfl rfl ?_
  refine WD.pure rfl (.inl rfl) rfl (r_fa fo106_1 rfl) rfl ?_
  refine WD.read rfl (.inl rfl) rfl (r_ld agg26 rfl hr1 rfl) rfl ?_
  refine WD.read rfl (.inl rfl) rfl (r_lennil ⟨_, un26⟩ rfl) rfl ?_
  refine WD.pure rfl (.inl rfl) rfl rfl rfl ?_
  refine WD.pure rfl (.inl rfl) rfl rfl rfl ?_
  refine WD.pure rfl (.inl rfl) rfl (r_lss (q := true) rfl rfl (by rw [iltb_eq]; exact decide_eq_true (by show (0 : Int) < n; omega))) rfl ?_
  refine WD.nil ⟨.inl rfl, ?_⟩
  refine after.seq ?_
  refine WK.cond rfl (fun _ => ?_) (fun h => (by cases h))
  refine WK.region ?_
  refine WR.op rfl rfl rfl rfl ?_
  refine WR.op rfl rfl rfl rfl ?_
  have hr2 : (layRest 0 [] (resv 13 st1)).heap.get b = some (boxO 106 (.agg [.ptr b 0, .nils])) := k1
  have hbl2 : b < (resv 13 st1).next := Nat.lt_of_lt_of_le (by rw [k2.nx]; exact hbl) (Nat.le_add_right _ _)
  refine WR.call (f := 125) («as» := [.ptr b 0, .int .i64 (n : Int)]) rfl (.inl rfl) rfl rfl rfl rfl ((grow1_ok (fun f hf => hs f (by revert f; decide)) hr2 hbl2 hn).mono ?_)
  rintro v2 st2 ⟨e1, e2, e3, e4, st3, e5, e6⟩
  refine WR.nil ?_
  have hx3 : Ext st0 st3 := (h1'.resv 13).trans e5
  have hbn := hx3.nx
  have hn1 := h1'.nx
  have hrn : (resv 13 st1).next = st1.next + 13 := rfl
  have e4' : (resv 13 st1).next + 17 ≤ st2.next := e4
  refine ⟨normal_ne 0, normal_ne, [], (by rw [res82]; rfl), ⟨_, by omega, .ptr b 0, _, e1, .inr rfl, .inr ⟨_, rfl, ?_, ?_, e2⟩, .inr ⟨?_, e3⟩⟩, ext_but hx3 hb e1 e6⟩
  · show (resv 13 st1).next + 16 < st2.next
    omega
  · show (resv 13 st1).next + 16 < st2.next
    omega
  · show st0.next ≤ (resv 13 st1).next + 16
    omega
end Go.Proofs.Tz
