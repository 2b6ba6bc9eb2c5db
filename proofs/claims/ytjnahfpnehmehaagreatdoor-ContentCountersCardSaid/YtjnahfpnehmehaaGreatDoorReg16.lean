/- A number as a sum of weights: additive. -/
import Derived.Test.YtjnahfpnehmehaaGreatDoorReg15
namespace Go.Proofs.Tz
open Go Go.AE Go.RowKit Go.Proofs
set_option maxRecDepth 100000
variable {sum : FuncId → List AV → St → Option (AV × St)}
/-- 'append' of one element; what the row's family bears. -/
theorem WR.app1M {C : Ctx} {nt : Nat} {rd : Option Nat} {env : Env} {st st0 : St} {Q : Post3} {ks : List Kont} {t e : TypeId} {x y : Operand} {d1 d2 : Tmp} {xv v zv : AV} {f bytes : Nat} {L : List (List AV)} {l : List SO} (ht : und C.P t = some (.slice e)) (hs : sizeT C.P e = some 1) (hby : bytesT C.P e = some bytes) (hb1 : Nat.ble 1 bytes = true) (hb2 : Nat.ble bytes 65536 = true) (hz : zeroT C.P e = some zv) (hzp : zv.plain = true)
    (hx : evE env x = some v) (hv : v.plain = true) (hd1 : Nat.blt d1 nt = true) (hd2 : Nat.blt d2 nt = true) (hy : evE ((d1, .slc st.next 0 1 (some 1)) :: env) y = some xv) (hrow : IsRow st xv f e 1 L) (hext : Ext st0 st) (hf : xv = .nils ∨ (st0.next ≤ f ∧ ∃ F, st.fams.get f = some F ∧ Nat.beq F.mark 1 = false)) (hl : L.length ≤ 1000000)
    (k : ∀ x' st' f', IsRow st' x' f' e 1 (L ++ [[v]]) → Ext st0 st' → (st0.next ≤ f' ∧ ∃ F, st'.fams.get f' = some F ∧ Nat.beq F.mark 1 = false) → WR C nt rd l ks ((d2, x') :: (d1, .slc st.next 0 1 (some 1)) :: env) st' Q) :
    WR C nt rd (⟨.buildSlice t 1 #[(0, x)], some d1, none⟩ :: ⟨.call ⟨.builtin .append, #[y, .tmp d1], #[t, t]⟩, some d2, none⟩ :: l) ks env st Q := by
  refine WR.op rfl rfl (r_lit (v := v) ht hs hz hzp hx hv) hd1 ?_
  have hl2 := stLit_load st e v hv
  obtain ⟨x', st', f', h1, h2, e3, e4, e5, e6, e7, ⟨F', e8, e9⟩, _⟩ := IsRow.appendM (st0 := st0) (n := 1) (bytes := bytes) (new := [v]) (hrow.ext ((Ext.refl st).lit e v)) (hext.lit _ _) (hf.imp id fun h => h.1) (Nat.le_refl 1) (Nat.le_refl 1) (chunks_one [v]) (by simp [hv]) hb2 (by omega)
  refine WR.op rfl rfl ((r_append (xv := xv) (b := st.next) ht hs hby hb1 hz hzp hy (by simp only [evE, lookE_cons, if_pos]) hl2).trans h1) hd2 ?_
  refine k x' st' f' h2 e3 ⟨e4, F', e8, ?_⟩
  rcases e9 with e9 | ⟨F, q1, q2, q3⟩
  · rw [e9]; rfl
  · rw [q3]
    rcases hf with hf | ⟨_, F0, q4, q5⟩
    · exact absurd hf q1
    · have q2 : (stLit st e v).fams.get f = some F := q2
      unfold stLit at q2
      rw [push_fams, q4] at q2
      rw [← Option.some.inj q2]; exact q5
/-- How often a weight goes into a number; its place is laid down each time. -/
def addIn (w i : Nat) : Nat → Nat → List Nat → Nat × List Nat
  | 0, n, l => (n, l)
  | f + 1, n, l => if w ≤ n ∧ l.length ≤ 60 then addIn w i f (n - w) (l ++ [i]) else (n, l)
def addOut : List Nat → Nat → Nat → List Nat → Nat × List Nat
  | [], _, n, l => (n, l)
  | w :: ws, i, n, l => addOut ws (i + 1) (addIn w i 62 n l).1 (addIn w i 62 n l).2
theorem addIn_le (w i : Nat) : ∀ (f n : Nat) (l : List Nat), (addIn w i f n l).1 ≤ n ∧ (addIn w i f n l).2.length ≤ l.length + f
  | 0, n, l => ⟨Nat.le_refl n, Nat.le_refl _⟩
  | f + 1, n, l => by
    rw [addIn]
    split
    · obtain ⟨h1, h2⟩ := addIn_le w i f (n - w) (l ++ [i])
      rw [List.length_append, List.length_singleton] at h2
      exact ⟨by omega, by omega⟩
    · exact ⟨Nat.le_refl n, by simp⟩
theorem addIn_60 (w i : Nat) : ∀ (f n : Nat) (l : List Nat), l.length ≤ 61 → (addIn w i f n l).2.length ≤ 61
  | 0, n, l, h => h
  | f + 1, n, l, h => by
    rw [addIn]
    split
    · exact addIn_60 w i f (n - w) (l ++ [i]) (by rw [List.length_append, List.length_singleton]; omega)
    · exact h
theorem addIn_lt {w i b : Nat} (hi : i < b) : ∀ (f n : Nat) (l : List Nat), (∀ p ∈ l, p < b) → ∀ p ∈ (addIn w i f n l).2, p < b
  | 0, n, l, h => h
  | f + 1, n, l, h => by
    rw [addIn]
    split
    · exact addIn_lt hi f (n - w) (l ++ [i]) fun p hp => by
        rcases List.mem_append.1 hp with hp | hp
        · exact h p hp
        · rw [List.mem_singleton.1 hp]; exact hi
    · exact h
theorem addOut_lt {b : Nat} : ∀ (ws : List Nat) (i n : Nat) (l : List Nat), i + ws.length ≤ b → (∀ p ∈ l, p < b) → ∀ p ∈ (addOut ws i n l).2, p < b
  | [], i, n, l, _, h => h
  | w :: ws, i, n, l, hb, h => by
    rw [addOut]
    rw [List.length_cons] at hb
    exact addOut_lt ws (i + 1) _ _ (by omega) (addIn_lt (by omega) 62 n l h)
def OkFam (st0 st : St) (x : AV) (f : Nat) : Prop := x = .nils ∨ (st0.next ≤ f ∧ ∃ F, st.fams.get f = some F ∧ Nat.beq F.mark 1 = false)
/-- fleuron/system.additive -/
def c121 : SC := (.seq (.region [⟨.box 75 (.tmp 0), some 2, none⟩, ⟨.assign (.const (.string ⟨#[]⟩)), some 4, none⟩, ⟨.assign (.const (.bool false)), some 5, none⟩])
  (.seq (.region [⟨.assign (.const (.slice none 0 0)), some 6, none⟩])
  (.seq (.seq (.region [⟨.move (.tmp 1), some 12, none⟩, ⟨.binOp .eql 3 (.tmp 12) (.const (.int .i64 0)) 3, some 13, none⟩])
  (.cond (.tmp 13) (.seq (.region [⟨.fieldAddr 75 (.tmp 2) 4, some 14, none⟩, ⟨.load 55 (.tmp 14), some 15, none⟩, ⟨.call ⟨.value (.func 163), #[(.tmp 15), (.const (.int .i64 0))], #[55, 3]⟩, some 16, none⟩, ⟨.assign (.tmp 16), some 7, none⟩])
  (.seq (.seq (.region [⟨.move (.tmp 7), some 17, none⟩, ⟨.binOp .lss 3 (.tmp 17) (.const (.int .i64 0)) 3, some 18, none⟩])
  (.cond (.tmp 18) (.seq (.region [⟨.assign (.const (.string ⟨#[]⟩)), some 4, none⟩, ⟨.assign (.const (.bool false)), some 5, none⟩])
  .ret) .skip))
  (.seq (.region [⟨.fieldAddr 75 (.tmp 2) 3, some 19, none⟩, ⟨.load 31 (.tmp 19), some 20, none⟩, ⟨.move (.tmp 7), some 21, none⟩, ⟨.indexAddr 31 (.tmp 20) (.tmp 21), some 22, none⟩, ⟨.load 9 (.tmp 22), some 23, none⟩, ⟨.assign (.tmp 23), some 4, none⟩, ⟨.assign (.const (.bool true)), some 5, none⟩])
  .ret))) .skip))
  (.seq (.seq (.region [⟨.fieldAddr 75 (.tmp 2) 4, some 24, none⟩, ⟨.load 55 (.tmp 24), some 25, none⟩, ⟨.call ⟨.builtin .len, #[(.tmp 25)], #[55]⟩, some 26, none⟩, ⟨.move (.const (.int .i64 0)), some 27, none⟩])
  (.block 0 (.loop (.seq (.region [⟨.binOp .lss 3 (.tmp 27) (.tmp 26) 3, some 28, none⟩])
  (.seq (.cond (.tmp 28) .skip (.exit 0))
  (.seq (.block 1 (.seq (.region [⟨.move (.tmp 27), some 29, none⟩, ⟨.indexAddr 55 (.tmp 25) (.tmp 27), some 30, none⟩, ⟨.load 3 (.tmp 30), some 31, none⟩, ⟨.assign (.tmp 29), some 8, none⟩, ⟨.assign (.tmp 31), some 9, none⟩])
  (.seq (.seq (.region [⟨.move (.tmp 9), some 32, none⟩, ⟨.binOp .eql 3 (.tmp 32) (.const (.int .i64 0)) 3, some 33, none⟩])
  (.cond (.tmp 33) (.exit 1) .skip))
  (.block 2 (.loop (.seq (.seq (.region [⟨.move (.tmp 1), some 34, none⟩, ⟨.move (.tmp 9), some 35, none⟩, ⟨.binOp .geq 3 (.tmp 34) (.tmp 35) 3, some 36, none⟩, ⟨.move (.tmp 36), some 37, none⟩, ⟨.move (.tmp 6), some 38, some (37, true)⟩, ⟨.call ⟨.builtin .len, #[(.tmp 38)], #[55]⟩, some 39, some (37, true)⟩, ⟨.binOp .leq 3 (.tmp 39) (.const (.int .i64 60)) 3, some 40, some (37, true)⟩, ⟨.pick (.tmp 37) (.tmp 40) (.const (.bool false)), some 41, none⟩])
  (.cond (.tmp 41) .skip (.exit 2)))
  (.seq (.block 3 (.region [⟨.move (.tmp 6), some 45, none⟩, ⟨.move (.tmp 8), some 46, none⟩, ⟨.buildSlice 55 1 #[(0, (.tmp 46))], some 47, none⟩, ⟨.call ⟨.builtin .append, #[(.tmp 45), (.tmp 47)], #[55, 55]⟩, some 48, none⟩, ⟨.assign (.tmp 48), some 6, none⟩]))
  (.region [⟨.move (.tmp 1), some 42, none⟩, ⟨.move (.tmp 9), some 43, none⟩, ⟨.binOp .sub 3 (.tmp 42) (.tmp 43) 3, some 44, none⟩, ⟨.assign (.tmp 44), some 1, none⟩]))))))))
  (.region [⟨.binOp .add 3 (.tmp 27) (.const (.int .i64 1)) 3, some 49, none⟩, ⟨.move (.tmp 49), some 27, none⟩])))))))
  (.seq (.region [⟨.move (.tmp 6), some 50, none⟩, ⟨.call ⟨.value (.func 164), #[(.tmp 50)], #[55]⟩, some 51, none⟩])
  (.seq (.region [⟨.load 75 (.tmp 2), some 53, none⟩, ⟨.move (.tmp 6), some 54, none⟩, ⟨.call ⟨.value (.func 119), #[(.tmp 53), (.tmp 54)], #[75, 55]⟩, some 55, none⟩, ⟨.move (.tmp 55), some 52, none⟩, ⟨.extract (.tmp 52) 0, some 56, none⟩, ⟨.extract (.tmp 52) 1, some 57, none⟩, ⟨.assign (.tmp 56), some 10, none⟩, ⟨.assign (.tmp 57), some 11, none⟩])
  (.seq (.seq (.region [⟨.move (.tmp 1), some 58, none⟩, ⟨.binOp .gtr 3 (.tmp 58) (.const (.int .i64 0)) 3, some 59, none⟩, ⟨.move (.tmp 59), some 60, none⟩, ⟨.move (.tmp 11), some 61, some (60, false)⟩, ⟨.unOp .not 4 (.tmp 61), some 62, some (60, false)⟩, ⟨.pick (.tmp 60) (.const (.bool true)) (.tmp 62), some 63, none⟩])
  (.cond (.tmp 63) (.seq (.region [⟨.assign (.const (.string ⟨#[]⟩)), some 4, none⟩, ⟨.assign (.const (.bool false)), some 5, none⟩])
  .ret) .skip))
  (.seq (.region [⟨.move (.tmp 10), some 64, none⟩, ⟨.assign (.tmp 64), some 4, none⟩, ⟨.assign (.const (.bool true)), some 5, none⟩])
  .ret))))))))
theorem c121_of : SC.of Tryz.f121.body.get! = c121 := by kernel_rfl
theorem body121 : Tryz.f121.body = some (Tryz.f121.body.get!) := by kernel_rfl
theorem nt121 : Tryz.f121.ntmps = 65 := by kernel_rfl
theorem res121 : Tryz.f121.results.toList = [.tmp 4, .tmp 5] := by kernel_rfl
def c121in : SC := (.loop (.seq (.seq (.region [⟨.move (.tmp 1), some 34, none⟩, ⟨.move (.tmp 9), some 35, none⟩, ⟨.binOp .geq 3 (.tmp 34) (.tmp 35) 3, some 36, none⟩, ⟨.move (.tmp 36), some 37, none⟩, ⟨.move (.tmp 6), some 38, some (37, true)⟩, ⟨.call ⟨.builtin .len, #[(.tmp 38)], #[55]⟩, some 39, some (37, true)⟩, ⟨.binOp .leq 3 (.tmp 39) (.const (.int .i64 60)) 3, some 40, some (37, true)⟩, ⟨.pick (.tmp 37) (.tmp 40) (.const (.bool false)), some 41, none⟩])
  (.cond (.tmp 41) .skip (.exit 2)))
  (.seq (.block 3 (.region [⟨.move (.tmp 6), some 45, none⟩, ⟨.move (.tmp 8), some 46, none⟩, ⟨.buildSlice 55 1 #[(0, (.tmp 46))], some 47, none⟩, ⟨.call ⟨.builtin .append, #[(.tmp 45), (.tmp 47)], #[55, 55]⟩, some 48, none⟩, ⟨.assign (.tmp 48), some 6, none⟩]))
  (.region [⟨.move (.tmp 1), some 42, none⟩, ⟨.move (.tmp 9), some 43, none⟩, ⟨.binOp .sub 3 (.tmp 42) (.tmp 43) 3, some 44, none⟩, ⟨.assign (.tmp 44), some 1, none⟩]))))
def c121out : SC := (.loop (.seq (.region [⟨.binOp .lss 3 (.tmp 27) (.tmp 26) 3, some 28, none⟩])
  (.seq (.cond (.tmp 28) .skip (.exit 0))
  (.seq (.block 1 (.seq (.region [⟨.move (.tmp 27), some 29, none⟩, ⟨.indexAddr 55 (.tmp 25) (.tmp 27), some 30, none⟩, ⟨.load 3 (.tmp 30), some 31, none⟩, ⟨.assign (.tmp 29), some 8, none⟩, ⟨.assign (.tmp 31), some 9, none⟩])
  (.seq (.seq (.region [⟨.move (.tmp 9), some 32, none⟩, ⟨.binOp .eql 3 (.tmp 32) (.const (.int .i64 0)) 3, some 33, none⟩])
  (.cond (.tmp 33) (.exit 1) .skip))
  (.block 2 (.loop (.seq (.seq (.region [⟨.move (.tmp 1), some 34, none⟩, ⟨.move (.tmp 9), some 35, none⟩, ⟨.binOp .geq 3 (.tmp 34) (.tmp 35) 3, some 36, none⟩, ⟨.move (.tmp 36), some 37, none⟩, ⟨.move (.tmp 6), some 38, some (37, true)⟩, ⟨.call ⟨.builtin .len, #[(.tmp 38)], #[55]⟩, some 39, some (37, true)⟩, ⟨.binOp .leq 3 (.tmp 39) (.const (.int .i64 60)) 3, some 40, some (37, true)⟩, ⟨.pick (.tmp 37) (.tmp 40) (.const (.bool false)), some 41, none⟩])
  (.cond (.tmp 41) .skip (.exit 2)))
  (.seq (.block 3 (.region [⟨.move (.tmp 6), some 45, none⟩, ⟨.move (.tmp 8), some 46, none⟩, ⟨.buildSlice 55 1 #[(0, (.tmp 46))], some 47, none⟩, ⟨.call ⟨.builtin .append, #[(.tmp 45), (.tmp 47)], #[55, 55]⟩, some 48, none⟩, ⟨.assign (.tmp 48), some 6, none⟩]))
  (.region [⟨.move (.tmp 1), some 42, none⟩, ⟨.move (.tmp 9), some 43, none⟩, ⟨.binOp .sub 3 (.tmp 42) (.tmp 43) 3, some 44, none⟩, ⟨.assign (.tmp 44), some 1, none⟩]))))))))
  (.region [⟨.binOp .add 3 (.tmp 27) (.const (.int .i64 1)) 3, some 49, none⟩, ⟨.move (.tmp 49), some 27, none⟩])))))
theorem add_in {st0 : St} {b len i wt : Nat} {wx : AV} (hwt : wt < 2147483648) (_hi : i < 1000000) {ks : List Kont} {Q : Post3} : ∀ (d n : Nat) (l : List Nat) (x : AV) (f : Nat) (st : St), 61 < l.length + d → l.length ≤ 61 → n < 2147483649 → IsRow st x f 3 1 (l.map intC) → Ext st0 st → OkFam st0 st x f →
    ∀ env, lookE 1 env = some (.int .i64 (n : Int)) → lookE 2 env = some (.ptr b 0) → lookE 6 env = some x → lookE 8 env = some (.int .i64 (i : Int)) → lookE 9 env = some (.int .i64 (wt : Int)) → lookE 25 env = some wx → lookE 26 env = some (.int .i64 (len : Int)) → lookE 27 env = some (.int .i64 (i : Int)) →
    (∀ env' st2 x' f', lookE 1 env' = some (.int .i64 ((addIn wt i d n l).1 : Int)) → lookE 2 env' = some (.ptr b 0) → lookE 6 env' = some x' → lookE 25 env' = some wx → lookE 26 env' = some (.int .i64 (len : Int)) → lookE 27 env' = some (.int .i64 (i : Int)) → IsRow st2 x' f' 3 1 ((addIn wt i d n l).2.map intC) → Ext st0 st2 → OkFam st0 st2 x' f' → after (CS sum) 65 none ks Q .normal env' st2) →
    WK (CS sum) 65 none c121in (.block 2 :: ks) env st Q := by
  intro d
  induction d with
  | zero => intro n l x f st h1 h2; omega
  | succ d ih =>
    intro n l x f st hd hl hn hrow hext hf env h1 h2 h6 h8 h9 h25 h26 h27 hfin
    refine WK.sub [(1, .int .i64 (n : Int)), (2, .ptr b 0), (6, x), (8, .int .i64 (i : Int)), (9, .int .i64 (wt : Int)), (25, wx), (26, .int .i64 (len : Int)), (27, .int .i64 (i : Int))] ?_ ?_
    · intro t v ht
      simp only [lookE_cons] at ht
      by_cases e1 : t = 1
      · rw [if_pos e1] at ht; subst e1; rw [h1]; exact ht
      rw [if_neg e1] at ht
      by_cases e2 : t = 2
      · rw [if_pos e2] at ht; subst e2; rw [h2]; exact ht
      rw [if_neg e2] at ht
      by_cases e6 : t = 6
      · rw [if_pos e6] at ht; subst e6; rw [h6]; exact ht
      rw [if_neg e6] at ht
      by_cases e8 : t = 8
      · rw [if_pos e8] at ht; subst e8; rw [h8]; exact ht
      rw [if_neg e8] at ht
      by_cases e9 : t = 9
      · rw [if_pos e9] at ht; subst e9; rw [h9]; exact ht
      rw [if_neg e9] at ht
      by_cases e25 : t = 25
      · rw [if_pos e25] at ht; subst e25; rw [h25]; exact ht
      rw [if_neg e25] at ht
      by_cases e26 : t = 26
      · rw [if_pos e26] at ht; subst e26; rw [h26]; exact ht
      rw [if_neg e26] at ht
      by_cases e27 : t = 27
      · rw [if_pos e27] at ht; subst e27; rw [h27]; exact ht
      rw [if_neg e27] at ht
      cases ht
    unfold c121in
    refine WK.loop ?_
    have hlm : (l.map intC).length = l.length := List.length_map _
    have hlen : ∀ {ρ : Rho} {y : Operand}, ρ y = some x → aopR Tryz.prog ρ st (.call ⟨.builtin .len, #[y], #[55]⟩) = some (.int .i64 (l.length : Int), st) := by
      intro ρ y hy
      rw [← hlm]
      exact r_lenE ⟨_, un55⟩ hy hrow.els
    by_cases hwn : wt ≤ n
    · by_cases h60 : l.length ≤ 60
      · refine WK.seq ?_
        refine WK.seq ?_
        refine WK.region ?_
        refine WR.op rfl rfl rfl rfl ?_
        refine WR.op rfl rfl rfl rfl ?_
        refine WR.op rfl rfl (r_geq rfl rfl (q := true) (by rw [iltb_F (by omega)]; rfl)) rfl ?_
        refine WR.op rfl rfl rfl rfl ?_
        refine WR.opG rfl rfl rfl rfl rfl ?_
        refine WR.opG rfl rfl rfl (hlen rfl) rfl ?_
        refine WR.opG rfl rfl rfl (r_leq rfl rfl (q := true) (by rw [iltb_F (by omega)]; rfl)) rfl ?_
        refine WR.op rfl rfl rfl rfl ?_
        refine WR.nil ?_
        refine after.seq ?_
        refine WK.cond rfl (fun _ => ?_) (fun h => (by cases h))
        refine WK.skip ?_
        refine after.seq ?_
        refine WK.seq ?_
        refine WK.block ?_
        refine WK.region ?_
        refine WR.op rfl rfl rfl rfl ?_
        refine WR.op rfl rfl rfl rfl ?_
        refine WR.app1M (st0 := st0) (v := .int .i64 (i : Int)) un55 sz3 by3 rfl rfl ze3 rfl rfl rfl rfl rfl rfl hrow hext hf (by rw [hlm]; omega) ?_
        intro x2 st2 f2 hrow2 hext2 hf2
        refine WR.op rfl rfl rfl rfl ?_
        refine WR.nil ?_
        refine after.block ?_
        refine after.seq ?_
        refine WK.region ?_
        refine WR.op rfl rfl rfl rfl ?_
        refine WR.op rfl rfl rfl rfl ?_
        refine WR.op rfl rfl (r_arith ⟨by decide, by decide⟩ rfl rfl (sub_nat (by omega) (by omega))) rfl ?_
        refine WR.op rfl rfl rfl rfl ?_
        refine WR.nil ?_
        refine after.seq ?_
        have e0 : addIn wt i (d + 1) n l = addIn wt i d (n - wt) (l ++ [i]) := by rw [addIn, if_pos ⟨hwn, h60⟩]
        rw [e0] at hfin
        exact ih (n - wt) (l ++ [i]) x2 f2 st2 (by rw [List.length_append, List.length_singleton]; omega) (by rw [List.length_append, List.length_singleton]; omega) (by omega) (by rw [List.map_append]; exact hrow2) hext2 (.inr hf2) _ rfl rfl rfl rfl rfl rfl rfl rfl hfin
      · refine WK.seq ?_
        refine WK.seq ?_
        refine WK.region ?_
        refine WR.op rfl rfl rfl rfl ?_
        refine WR.op rfl rfl rfl rfl ?_
        refine WR.op rfl rfl (r_geq rfl rfl (q := true) (by rw [iltb_F (by omega)]; rfl)) rfl ?_
        refine WR.op rfl rfl rfl rfl ?_
        refine WR.opG rfl rfl rfl rfl rfl ?_
        refine WR.opG rfl rfl rfl (hlen rfl) rfl ?_
        refine WR.opG rfl rfl rfl (r_leq rfl rfl (q := false) (by rw [iltb_T (by omega)]; rfl)) rfl ?_
        refine WR.op rfl rfl rfl rfl ?_
        refine WR.nil ?_
        refine after.seq ?_
        refine WK.cond rfl (fun h => (by cases h)) (fun _ => ?_)
        refine WK.exit ?_
        refine after.seq_exit ?_
        refine after.seq_exit ?_
        refine after.exit ?_
        have e0 : addIn wt i (d + 1) n l = (n, l) := by rw [addIn, if_neg (by omega)]
        rw [e0] at hfin
        exact hfin _ _ x f rfl rfl rfl rfl rfl rfl hrow hext hf
    · refine WK.seq ?_
      refine WK.seq ?_
      refine WK.region ?_
      refine WR.op rfl rfl rfl rfl ?_
      refine WR.op rfl rfl rfl rfl ?_
      refine WR.op rfl rfl (r_geq rfl rfl (q := false) (by rw [iltb_T (by omega)]; rfl)) rfl ?_
      refine WR.op rfl rfl rfl rfl ?_
      refine WR.off rfl rfl rfl rfl rfl ?_
      refine WR.off rfl rfl rfl rfl rfl ?_
      refine WR.off rfl rfl rfl rfl rfl ?_
      refine WR.op rfl rfl rfl rfl ?_
      refine WR.nil ?_
      refine after.seq ?_
      refine WK.cond rfl (fun h => (by cases h)) (fun _ => ?_)
      refine WK.exit ?_
      refine after.seq_exit ?_
      refine after.seq_exit ?_
      refine after.exit ?_
      have e0 : addIn wt i (d + 1) n l = (n, l) := by rw [addIn, if_neg (by omega)]
      rw [e0] at hfin
      exact hfin _ _ x f rfl rfl rfl rfl rfl rfl hrow hext hf
theorem add_out {st0 : St} {b : Nat} {wx : AV} {ws : List Nat} (hws : ∀ x ∈ ws, 1 ≤ x ∧ x < 2147483648) (hwl : ws.length < 1000000) {stw : St} (hE : Els stw wx 1 (ws.map intC)) {ks : List Kont} {Q : Post3} : ∀ (r pre : List Nat), pre ++ r = ws → ∀ (n : Nat) (l : List Nat) (x : AV) (f : Nat) (st : St), l.length ≤ 61 → n < 2147483649 → IsRow st x f 3 1 (l.map intC) → Ext st0 st → Ext stw st → (∀ st2, Ext st0 st2 → Ext stw st2) → OkFam st0 st x f →
    ∀ env, lookE 1 env = some (.int .i64 (n : Int)) → lookE 2 env = some (.ptr b 0) → lookE 6 env = some x → lookE 25 env = some wx → lookE 26 env = some (.int .i64 (ws.length : Int)) → lookE 27 env = some (.int .i64 (pre.length : Int)) →
    (∀ env' st2 x' f', lookE 1 env' = some (.int .i64 ((addOut r pre.length n l).1 : Int)) → lookE 2 env' = some (.ptr b 0) → lookE 6 env' = some x' → IsRow st2 x' f' 3 1 ((addOut r pre.length n l).2.map intC) → Ext st0 st2 → OkFam st0 st2 x' f' → after (CS sum) 65 none ks Q .normal env' st2) →
    WK (CS sum) 65 none c121out (.block 0 :: ks) env st Q := by
  intro r
  induction r with
  | nil =>
    intro pre hpre n l x f st hl hn hrow hext hextw hmk hf env h1 h2 h6 h25 h26 h27 hfin
    have hpl : pre.length = ws.length := by rw [← hpre]; simp
    refine WK.sub [(1, .int .i64 (n : Int)), (2, .ptr b 0), (6, x), (25, wx), (26, .int .i64 (ws.length : Int)), (27, .int .i64 (pre.length : Int))] ?_ ?_
    · intro t v ht
      simp only [lookE_cons] at ht
      by_cases e1 : t = 1
      · rw [if_pos e1] at ht; subst e1; rw [h1]; exact ht
      rw [if_neg e1] at ht
      by_cases e2 : t = 2
      · rw [if_pos e2] at ht; subst e2; rw [h2]; exact ht
      rw [if_neg e2] at ht
      by_cases e6 : t = 6
      · rw [if_pos e6] at ht; subst e6; rw [h6]; exact ht
      rw [if_neg e6] at ht
      by_cases e25 : t = 25
      · rw [if_pos e25] at ht; subst e25; rw [h25]; exact ht
      rw [if_neg e25] at ht
      by_cases e26 : t = 26
      · rw [if_pos e26] at ht; subst e26; rw [h26]; exact ht
      rw [if_neg e26] at ht
      by_cases e27 : t = 27
      · rw [if_pos e27] at ht; subst e27; rw [h27]; exact ht
      rw [if_neg e27] at ht
      cases ht
    unfold c121out
    refine WK.loop ?_
    refine WK.seq ?_
    refine WK.region ?_
    refine WR.op rfl rfl (r_lss rfl rfl (iltb_F (by omega))) rfl ?_
    refine WR.nil ?_
    refine after.seq ?_
    refine WK.seq ?_
    refine WK.cond rfl (fun h => (by cases h)) (fun _ => ?_)
    refine WK.exit ?_
    refine after.seq_exit ?_
    refine after.seq_exit ?_
    refine after.exit ?_
    exact hfin _ _ x f rfl rfl rfl hrow hext hf
  | cons wt r ih =>
    intro pre hpre n l x f st hl hn hrow hext hextw hmk hf env h1 h2 h6 h25 h26 h27 hfin
    have hpl : ws.length = pre.length + (r.length + 1) := by rw [← hpre]; simp
    have hwt := hws wt (by rw [← hpre]; simp)
    have hlm : (ws.map intC).length = ws.length := List.length_map _
    obtain ⟨mm, off, hia, hla⟩ := (hE.ext hextw).at (n := pre.length) un55 sz3 (by rw [hlm]; omega)
    have hget : (ws.map intC)[pre.length]? = some [.int .i64 (wt : Int)] := by rw [List.getElem?_map, ← hpre]; simp [intC]
    obtain ⟨q1, q2⟩ := addIn_le wt pre.length 62 n l
    refine WK.sub [(1, .int .i64 (n : Int)), (2, .ptr b 0), (6, x), (25, wx), (26, .int .i64 (ws.length : Int)), (27, .int .i64 (pre.length : Int))] ?_ ?_
    · intro t v ht
      simp only [lookE_cons] at ht
      by_cases e1 : t = 1
      · rw [if_pos e1] at ht; subst e1; rw [h1]; exact ht
      rw [if_neg e1] at ht
      by_cases e2 : t = 2
      · rw [if_pos e2] at ht; subst e2; rw [h2]; exact ht
      rw [if_neg e2] at ht
      by_cases e6 : t = 6
      · rw [if_pos e6] at ht; subst e6; rw [h6]; exact ht
      rw [if_neg e6] at ht
      by_cases e25 : t = 25
      · rw [if_pos e25] at ht; subst e25; rw [h25]; exact ht
      rw [if_neg e25] at ht
      by_cases e26 : t = 26
      · rw [if_pos e26] at ht; subst e26; rw [h26]; exact ht
      rw [if_neg e26] at ht
      by_cases e27 : t = 27
      · rw [if_pos e27] at ht; subst e27; rw [h27]; exact ht
      rw [if_neg e27] at ht
      cases ht
    unfold c121out
    refine WK.loop ?_
    refine WK.seq ?_
    refine WK.region ?_
    refine WR.op rfl rfl (r_lss rfl rfl (iltb_T (by omega))) rfl ?_
    refine WR.nil ?_
    refine after.seq ?_
    refine WK.seq ?_
    refine WK.cond rfl (fun _ => ?_) (fun h => (by cases h))
    refine WK.skip ?_
    refine after.seq ?_
    refine WK.seq ?_
    refine WK.block ?_
    refine WK.seq ?_
    refine WK.region ?_
    refine WR.op rfl rfl rfl rfl ?_
    refine WR.op rfl rfl (hia rfl rfl) rfl ?_
    refine WR.op rfl rfl ((hla _ hget rfl _ _ _ rfl).1 agg3 _ rfl) rfl ?_
    refine WR.op rfl rfl rfl rfl ?_
    refine WR.op rfl rfl rfl rfl ?_
    refine WR.nil ?_
    refine after.seq ?_
    refine WK.seq ?_
    refine WK.seq ?_
    refine WK.region ?_
    refine WR.op rfl rfl rfl rfl ?_
    refine WR.op rfl rfl (r_eql rfl rfl (q := false) (by rw [ieqb_eq]; exact decide_eq_false (by omega))) rfl ?_
    refine WR.nil ?_
    refine after.seq ?_
    refine WK.cond rfl (fun h => (by cases h)) (fun _ => ?_)
    refine WK.skip ?_
    refine after.seq ?_
    refine WK.block ?_
    refine add_in (st0 := st0) hwt.2 (by omega) 62 n l x f st (by omega) hl hn hrow hext hf _ rfl rfl rfl rfl rfl rfl rfl rfl fun env2 st2 x2 f2 g1 g2 g6 g25 g26 g27 hrow2 hext2 hf2 => ?_
    refine after.block ?_
    refine after.seq ?_
    refine WK.sub [(1, .int .i64 ((addIn wt pre.length 62 n l).1 : Int)), (2, .ptr b 0), (6, x2), (25, wx), (26, .int .i64 (ws.length : Int)), (27, .int .i64 (pre.length : Int))] ?_ ?_
    · intro t v ht
      simp only [lookE_cons] at ht
      by_cases e1 : t = 1
      · rw [if_pos e1] at ht; subst e1; rw [g1]; exact ht
      rw [if_neg e1] at ht
      by_cases e2 : t = 2
      · rw [if_pos e2] at ht; subst e2; rw [g2]; exact ht
      rw [if_neg e2] at ht
      by_cases e6 : t = 6
      · rw [if_pos e6] at ht; subst e6; rw [g6]; exact ht
      rw [if_neg e6] at ht
      by_cases e25 : t = 25
      · rw [if_pos e25] at ht; subst e25; rw [g25]; exact ht
      rw [if_neg e25] at ht
      by_cases e26 : t = 26
      · rw [if_pos e26] at ht; subst e26; rw [g26]; exact ht
      rw [if_neg e26] at ht
      by_cases e27 : t = 27
      · rw [if_pos e27] at ht; subst e27; rw [g27]; exact ht
      rw [if_neg e27] at ht
      cases ht
    refine WK.region ?_
    refine WR.op rfl rfl (r_arith ⟨by decide, by decide⟩ rfl rfl (add_nat (b := 1) (by omega))) rfl ?_
    refine WR.op rfl rfl rfl rfl ?_
    refine WR.nil ?_
    refine after.seq ?_
    exact ih (pre ++ [wt]) (by rw [← hpre]; simp) _ _ x2 f2 st2 (addIn_60 _ _ _ _ _ hl) (by omega) hrow2 hext2 (hmk st2 hext2) hmk hf2 _ rfl rfl rfl rfl rfl (by rw [List.length_append]; rfl) (by rw [List.length_append]; exact hfin)
theorem additive_ok (hs : ∀ f ∈ [121, 164, 119, 162, 43, 42, 77, 117], ∀ xs st, sum f xs st = none) {d : D} (hd : d.Plain) {syms : List (List UInt8)} {ws : List Nat} {st : St} (hsy : Els st d.syms 1 (syms.map strC)) (hwe : Els st d.weights 1 (ws.map intC)) (hws : ∀ x ∈ ws, 1 ≤ x ∧ x < 2147483648) (hwl : ws.length < 1000000) (hsl : ws.length = syms.length)
    (hsm : ∀ s ∈ syms, s ≠ [] ∧ s.length ≤ 1000) {n : Nat} (hn0 : 1 ≤ n) (hn : n < 2147483649) (hr0 : (addOut ws 0 n []).1 = 0) (hrl : (addOut ws 0 n []).2.length ≤ 60) (hrl1 : 1 ≤ (addOut ws 0 n []).2.length) (hNF : NF st) :
    CallW (CS sum) 121 [d.av, .int .i64 (n : Int)] st fun v st' => v = .tup [.str (pick syms (addOut ws 0 n []).2.reverse), .bool true] ∧ Ext st st' := by
  have hb0 := push_self st (boxO 75 d.av)
  have hext0 : Ext st (st.push (boxO 75 d.av)) := (Ext.refl st).push _
  have hlt0 : st.next < (st.push (boxO 75 d.av)).next := by rw [push_next]; omega
  have hlm : (ws.map intC).length = ws.length := List.length_map _
  refine CallW.enter (hs 121 (by simp) _ _) Tryz.func121 body121 c121_of rfl ?_
  rw [nt121]
  unfold c121
  refine WK.seq ?_
  refine WK.region ?_
  refine WR.op rfl rfl (r_box rfl hd.ok) rfl ?_
  refine WR.op rfl rfl rfl rfl ?_
  refine WR.op rfl rfl rfl rfl ?_
  refine WR.nil ?_
  refine after.seq ?_
  refine WK.seq ?_
  refine WK.region ?_
  refine WR.op rfl rfl rfl rfl ?_
  refine WR.nil ?_
  refine after.seq ?_
  refine WK.seq ?_
  refine WK.seq ?_
  refine WK.region ?_
  refine WR.op rfl rfl rfl rfl ?_
  refine WR.op rfl rfl (r_eql rfl rfl (q := false) (by rw [ieqb_eq]; exact decide_eq_false (by omega))) rfl ?_
  refine WR.nil ?_
  refine after.seq ?_
  refine WK.cond rfl (fun h => (by cases h)) (fun _ => ?_)
  refine WK.skip ?_
  refine after.seq ?_
  refine WK.seq ?_
  refine WK.seq ?_
  refine WK.region ?_
  refine WR.op rfl rfl (r_fa fo75_4 rfl) rfl ?_
  refine WR.op rfl rfl (r_ld agg55 rfl hb0 rfl) rfl ?_
  refine WR.op rfl rfl (v := .int .i64 (ws.length : Int)) (st' := st.push (boxO 75 d.av)) (by
    have := r_lenE (st := st.push (boxO 75 d.av)) (t := 55) (x := .tmp 25) (ρ := fun _ => some d.weights) ⟨_, un55⟩ rfl (hwe.ext hext0)
    rw [hlm] at this
    exact this) rfl ?_
  refine WR.op rfl rfl rfl rfl ?_
  refine WR.nil ?_
  refine after.seq ?_
  refine WK.block ?_
  refine add_out (st0 := st.push (boxO 75 d.av)) (stw := st) hws hwl hwe ws [] rfl n [] .nils 0 _ (by simp) hn (.inl ⟨rfl, rfl⟩) (Ext.refl _) hext0 (fun st2 h => hext0.trans h) (.inl rfl) _ rfl rfl rfl rfl rfl rfl fun env2 st2 x2 f2 g1 g2 g6 hrow2 hext2 hf2 => ?_
  rw [List.length_nil] at g1 hrow2
  rw [hr0] at g1
  obtain ⟨m, rfl, hm1, hf1, hrow3⟩ : ∃ m, x2 = .slc m 0 (addOut ws 0 n []).2.length none ∧ m < st2.next ∧ f2 < st2.next ∧ RowAt st2 m f2 3 1 ((addOut ws 0 n []).2.map intC) := by
    rcases hrow2 with ⟨_, h⟩ | ⟨m, h1, h2, h3, h4⟩
    · exact absurd (congrArg List.length h) (by rw [List.length_map, List.length_nil]; omega)
    · exact ⟨m, by rw [h1, List.length_map], h2, h3, h4⟩
  refine after.seq ?_
  refine WK.sub [(1, .int .i64 ((0 : Nat) : Int)), (2, .ptr st.next 0), (6, .slc m 0 (addOut ws 0 n []).2.length none)] ?_ ?_
  · intro t v ht
    simp only [lookE_cons] at ht
    by_cases e1 : t = 1
    · rw [if_pos e1] at ht; subst e1; rw [g1]; exact ht
    rw [if_neg e1] at ht
    by_cases e2 : t = 2
    · rw [if_pos e2] at ht; subst e2; rw [g2]; exact ht
    rw [if_neg e2] at ht
    by_cases e6 : t = 6
    · rw [if_pos e6] at ht; subst e6; rw [g6]; exact ht
    rw [if_neg e6] at ht
    cases ht
  refine WK.seq ?_
  refine WK.region ?_
  refine WR.op rfl rfl rfl rfl ?_
  refine WR.call (f := 164) («as» := [.slc m 0 (addOut ws 0 n []).2.length none]) rfl (.inl rfl) rfl rfl rfl rfl ((reverse_ok (hs 164 (by simp)) (st0 := st.push (boxO 75 d.av)) (by omega) hrl1 (by
    rcases hf2 with h | ⟨h1, h2⟩
    · cases h
    · refine ⟨hrow3, hext2, ?_, hm1, h1, hf1, h2⟩
      rcases Nat.lt_or_ge m (st.push (boxO 75 d.av)).next with h | h
      · exfalso
        obtain ⟨tt, room, k1, _⟩ := hrow3.blk
        have := hext2.nf m _ f2 k1 rfl
        have k2 := hext2.heap m h
        rw [k1] at k2
        exact absurd ((hNF.ext hext0) m _ f2 k2.symm rfl) (by omega)
      · exact h)).mono ?_)
  rintro v3 st3 hrow4
  have hb3 : st3.heap.get st.next = some (boxO 75 d.av) := by rw [hrow4.ext.heap _ hlt0]; exact hb0
  refine WR.nil ?_
  refine after.seq ?_
  refine WK.seq ?_
  refine WK.region ?_
  refine WR.op rfl rfl (r_ldA agg75 sz75 rfl hb3 (Nat.le_refl 16) rfl) rfl ?_
  refine WR.op rfl rfl rfl rfl ?_
  refine WR.call (f := 119) («as» := [d.av, .slc m 0 (addOut ws 0 n []).2.length none]) rfl (.inl rfl) rfl rfl rfl rfl ((chosen_ok (fun f hf => hs f (by revert f; decide)) hd (hsy.ext (hext0.trans hrow4.ext)) (pl := (addOut ws 0 n []).2.reverse) (fp := f2) (.inr ⟨m, by rw [List.length_map, List.length_reverse], hrow4.m1, hrow4.f1, hrow4.row⟩) hsm (fun p hp => by rw [← hsl]; exact addOut_lt ws 0 n [] (by omega) (fun q hq => by cases hq) p (List.mem_reverse.1 hp))).mono ?_)
  rw [List.length_reverse, if_pos hrl, decide_eq_true hrl]
  rintro v5 st5 ⟨rfl, k5⟩
  refine WR.op rfl rfl rfl rfl ?_
  refine WR.op rfl rfl rfl rfl ?_
  refine WR.op rfl rfl rfl rfl ?_
  refine WR.op rfl rfl rfl rfl ?_
  refine WR.op rfl rfl rfl rfl ?_
  refine WR.nil ?_
  refine after.seq ?_
  refine WK.seq ?_
  refine WK.seq ?_
  refine WK.region ?_
  refine WR.op rfl rfl rfl rfl ?_
  refine WR.op rfl rfl (r_gtr rfl rfl (q := false) rfl) rfl ?_
  refine WR.op rfl rfl rfl rfl ?_
  refine WR.opG rfl rfl rfl rfl rfl ?_
  refine WR.opG rfl rfl rfl rfl rfl ?_
  refine WR.op rfl rfl rfl rfl ?_
  refine WR.nil ?_
  refine after.seq ?_
  refine WK.cond rfl (fun h => (by cases h)) (fun _ => ?_)
  refine WK.skip ?_
  refine after.seq ?_
  refine WK.seq ?_
  refine WK.region ?_
  refine WR.op rfl rfl rfl rfl ?_
  refine WR.op rfl rfl rfl rfl ?_
  refine WR.op rfl rfl rfl rfl ?_
  refine WR.nil ?_
  refine after.seq ?_
  refine WK.ret ?_
  exact ⟨ret_ne 0, ret_ne, [.str _, .bool true], (by rw [res121]; rfl), rfl, (hext0.trans hrow4.ext).trans k5⟩
end Go.Proofs.Tz
