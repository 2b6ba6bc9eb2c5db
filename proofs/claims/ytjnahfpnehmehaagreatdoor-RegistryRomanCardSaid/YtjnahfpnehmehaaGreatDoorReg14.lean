/- fleuronref1.Decimal: the digits of a number. -/
import Derived.Test.YtjnahfpnehmehaaGreatDoorRegSty
namespace Go.Proofs.Tz
open Go Go.AE Go.RowKit Go.Proofs
set_option maxRecDepth 100000
variable {sum : FuncId → List AV → St → Option (AV × St)}
theorem r_convI {P : Program} {ρ : Rho} {st : St} {s d : TypeId} {x : Operand} {k k' : IntKind} {n m : Int} {y : TypeDesc} (hs : und P s = some y) (hd : und P d = some (.int k')) (hx : ρ x = some (.int k n)) (h : wrapF k' n = m) : aopR P ρ st (.convert s d x) = some (.int k' m, st) := by
  refine r_conv hx ?_
  simp only [AE.convert, hs, hd, h]
theorem r_bytes1 {P : Program} {ρ : Rho} {st : St} {a t e : TypeId} {x : Operand} {b : Nat} {c : Option Nat} {n : Int} (ha : und P a = some .string) (ht : und P t = some (.slice e)) (he : und P e = some (.int .u8)) (hx : ρ x = some (.slc b 0 1 c)) (hl : AE.loadCells st b 0 1 = some [.int .u8 n]) :
    aopR P ρ st (.convert t a x) = some (.str [UInt8.ofNat n.toNat], st) := by
  simp only [aopR, hx, bnd_some, AE.convert, ha, ht, he, hl, bytesOf]
theorem r_negU {P : Program} {ρ : Rho} {st : St} {t : TypeId} {x : Operand} {n m : Int} (hx : ρ x = some (.int .u64 n)) (h : IntKind.wrap .u64 (0 - n) = m) : aopR P ρ st (.unOp .neg t x) = some (.int .u64 m, st) := by
  simp only [aopR, hx, bnd_some, unOp, h]
theorem un125 : und Tryz.prog 125 = some (.int .u64) := by kernel_rfl
theorem un5 : und Tryz.prog 5 = some (.int .u8) := by kernel_rfl
theorem un3 : und Tryz.prog 3 = some (.int .i64) := by kernel_rfl
theorem u64_of_neg {n : Int} (h0 : n < 0) (h1 : -18446744073709551616 ≤ n) : IntKind.u64.wrap n = n + 18446744073709551616 := by
  simp [IntKind.wrap, IntKind.bits, IntKind.signed]; omega
theorem u64_negneg {n : Int} (h0 : n < 0) (h1 : -18446744073709551616 < n) : IntKind.u64.wrap (0 - (n + 18446744073709551616)) = ((n.natAbs : Nat) : Int) := by
  simp [IntKind.wrap, IntKind.bits, IntKind.signed]; omega
theorem remU {u b : Nat} (hb : b ≠ 0) : intBin .rem .u64 (u : Int) (b : Int) = some (.int .u64 ((u % b : Nat) : Int)) := by
  have h0 : ieqb (b : Int) 0 = false := by rw [ieqb_eq]; simp; exact hb
  have h1 : (u : Int).tmod b = ((u % b : Nat) : Int) := rfl
  simp only [intBin, h0, h1]
  rfl
theorem addU {a b : Nat} (h : a + b < 18446744073709551616) : intBin .add .u64 (a : Int) (b : Int) = some (.int .u64 ((a + b : Nat) : Int)) := by
  have : wrapF .u64 (Int.add a b) = ((a + b : Nat) : Int) := by
    rw [wrapF_eq]
    show IntKind.wrap .u64 ((a : Int) + b) = _
    rw [IntWalk.u64_in _ (by omega)]; omega
  simp only [intBin, this]
theorem quoU {u b : Nat} (hb : b ≠ 0) (h : u < 18446744073709551616) : intBin .quo .u64 (u : Int) (b : Int) = some (.int .u64 ((u / b : Nat) : Int)) := by
  have h0 : ieqb (b : Int) 0 = false := by rw [ieqb_eq]; simp; exact hb
  have h1 : (u : Int).tdiv b = ((u / b : Nat) : Int) := rfl
  have h2 : u / b ≤ u := Nat.div_le_self u b
  have : wrapF .u64 ((u : Int).tdiv b) = ((u / b : Nat) : Int) := by
    rw [wrapF_eq, h1]
    generalize u / b = d at h2
    rw [IntWalk.u64_in _ (by omega)]
  simp only [intBin, h0, this]
  rfl
/-! Digits -/
theorem posZ_fuel : ∀ (f n : Nat), n < 10 ^ f → posZ 10 f n = posZ 10 (f + 1) n
  | 0, n, h => by
    have : n < 1 := h
    rw [posZ, posZ, if_neg (by omega)]
  | f + 1, n, h => by
    rw [posZ, posZ]
    split
    · rw [posZ_fuel f (n / 10) (by rw [Nat.pow_succ] at h; omega)]
    · rfl
theorem digs_ten {u : Nat} (h : 10 ≤ u) (h2 : u < 18446744073709551616) : digs true 10 u = u % 10 :: digs true 10 (u / 10) := by
  show u % 10 :: posZ 10 40 u = u % 10 :: (u / 10 % 10 :: posZ 10 40 (u / 10))
  rw [posZ, if_pos h, posZ_fuel 39 (u / 10) (by have : (18446744073709551616 : Nat) < 10 ^ 39 := by decide
                                                omega)]
theorem digs_one {u : Nat} (h : u < 10) : digs true 10 u = [u] := by
  show u % 10 :: posZ 10 40 u = _
  rw [posZ, if_neg (by omega), Nat.mod_eq_of_lt h]
theorem pick_cons (syms : List (List UInt8)) (p : Nat) (l : List Nat) : pick syms (p :: l) = pick syms l ++ syms.getD p [] := by
  unfold pick
  simp
theorem dec_digit {p : Nat} (h : p < 10) : decS.getD p [] = [UInt8.ofNat (48 + p)] := by
  have : ∀ q, q < 10 → decS.getD q [] = [UInt8.ofNat (48 + q)] := by decide
  exact this p h
noncomputable def decD (u : Nat) (d : List UInt8) : List UInt8 := if u = 0 ∧ d ≠ [] then d else pick decS (digs true 10 u) ++ d
theorem decD_step {u : Nat} (h : u < 18446744073709551616) (d : List UInt8) (hne : ¬ (u = 0 ∧ d ≠ [])) : decD (u / 10) ([UInt8.ofNat (48 + u % 10)] ++ d) = decD u d := by
  unfold decD
  rw [if_neg hne]
  have hp : u % 10 < 10 := Nat.mod_lt _ (by decide)
  by_cases h10 : u < 10
  · rw [if_pos ⟨by omega, by simp⟩, digs_one h10, pick_cons, ← dec_digit hp, Nat.mod_eq_of_lt h10]
    rfl
  · rw [if_neg (by omega), digs_ten (by omega) h, pick_cons, dec_digit hp, List.append_assoc]
/-- fleuron/fleuronref1.Decimal -/
def c25 : SC := (.seq (.region [⟨.assign (.const (.string ⟨#[]⟩)), some 2, none⟩])
  (.seq (.region [⟨.move (.tmp 0), some 6, none⟩, ⟨.convert 3 125 (.tmp 6), some 7, none⟩, ⟨.assign (.tmp 7), some 3, none⟩])
  (.seq (.region [⟨.assign (.const (.string ⟨#[]⟩)), some 4, none⟩])
  (.seq (.seq (.region [⟨.move (.tmp 0), some 8, none⟩, ⟨.binOp .lss 3 (.tmp 8) (.const (.int .i64 0)) 3, some 9, none⟩])
  (.cond (.tmp 9) (.seq (.region [⟨.move (.tmp 3), some 10, none⟩, ⟨.unOp .neg 125 (.tmp 10), some 11, none⟩, ⟨.assign (.tmp 11), some 3, none⟩])
  (.region [⟨.assign (.const (.string ⟨#[45]⟩)), some 4, none⟩])) .skip))
  (.seq (.region [⟨.assign (.const (.string ⟨#[]⟩)), some 5, none⟩])
  (.seq (.block 0 (.loop (.seq (.seq (.region [⟨.move (.tmp 3), some 12, none⟩, ⟨.binOp .gtr 125 (.tmp 12) (.const (.int .u64 0)) 125, some 13, none⟩, ⟨.move (.tmp 13), some 14, none⟩, ⟨.move (.tmp 5), some 15, some (14, false)⟩, ⟨.binOp .eql 9 (.tmp 15) (.const (.string ⟨#[]⟩)) 9, some 16, some (14, false)⟩, ⟨.pick (.tmp 14) (.const (.bool true)) (.tmp 16), some 17, none⟩])
  (.cond (.tmp 17) .skip (.exit 0)))
  (.block 1 (.seq (.region [⟨.move (.tmp 3), some 18, none⟩, ⟨.binOp .rem 125 (.tmp 18) (.const (.int .u64 10)) 125, some 19, none⟩, ⟨.binOp .add 125 (.const (.int .u64 48)) (.tmp 19) 125, some 20, none⟩, ⟨.convert 125 5 (.tmp 20), some 21, none⟩, ⟨.buildSlice 26 1 #[(0, (.tmp 21))], some 22, none⟩, ⟨.convert 26 9 (.tmp 22), some 23, none⟩, ⟨.move (.tmp 5), some 24, none⟩, ⟨.binOp .add 9 (.tmp 23) (.tmp 24) 9, some 25, none⟩, ⟨.assign (.tmp 25), some 5, none⟩])
  (.region [⟨.move (.tmp 3), some 26, none⟩, ⟨.binOp .quo 125 (.tmp 26) (.const (.int .u64 10)) 125, some 27, none⟩, ⟨.assign (.tmp 27), some 3, none⟩]))))))
  (.seq (.region [⟨.move (.tmp 4), some 28, none⟩, ⟨.move (.tmp 5), some 29, none⟩, ⟨.binOp .add 9 (.tmp 28) (.tmp 29) 9, some 30, none⟩, ⟨.assign (.tmp 30), some 2, none⟩])
  .ret)))))))
theorem c25_of : SC.of Tryz.f25.body.get! = c25 := by kernel_rfl
theorem body25 : Tryz.f25.body = some (Tryz.f25.body.get!) := by kernel_rfl
theorem nt25 : Tryz.f25.ntmps = 31 := by kernel_rfl
theorem res25 : Tryz.f25.results.toList = [.tmp 2] := by kernel_rfl
def c25loop : SC := (.loop (.seq (.seq (.region [⟨.move (.tmp 3), some 12, none⟩, ⟨.binOp .gtr 125 (.tmp 12) (.const (.int .u64 0)) 125, some 13, none⟩, ⟨.move (.tmp 13), some 14, none⟩, ⟨.move (.tmp 5), some 15, some (14, false)⟩, ⟨.binOp .eql 9 (.tmp 15) (.const (.string ⟨#[]⟩)) 9, some 16, some (14, false)⟩, ⟨.pick (.tmp 14) (.const (.bool true)) (.tmp 16), some 17, none⟩])
  (.cond (.tmp 17) .skip (.exit 0)))
  (.block 1 (.seq (.region [⟨.move (.tmp 3), some 18, none⟩, ⟨.binOp .rem 125 (.tmp 18) (.const (.int .u64 10)) 125, some 19, none⟩, ⟨.binOp .add 125 (.const (.int .u64 48)) (.tmp 19) 125, some 20, none⟩, ⟨.convert 125 5 (.tmp 20), some 21, none⟩, ⟨.buildSlice 26 1 #[(0, (.tmp 21))], some 22, none⟩, ⟨.convert 26 9 (.tmp 22), some 23, none⟩, ⟨.move (.tmp 5), some 24, none⟩, ⟨.binOp .add 9 (.tmp 23) (.tmp 24) 9, some 25, none⟩, ⟨.assign (.tmp 25), some 5, none⟩])
  (.region [⟨.move (.tmp 3), some 26, none⟩, ⟨.binOp .quo 125 (.tmp 26) (.const (.int .u64 10)) 125, some 27, none⟩, ⟨.assign (.tmp 27), some 3, none⟩])))))
theorem dec_loop {st : St} {sg : List UInt8} {ks : List Kont} {Q : Post3} : ∀ (m u : Nat) (d : List UInt8) (st1 : St), u < 18446744073709551616 → u + (if d = [] then 1 else 0) < m → d.length + (if u = 0 then 0 else u.log2 + 1) ≤ 100 → Ext st st1 →
    ∀ env, lookE 3 env = some (.int .u64 (u : Int)) → lookE 4 env = some (.str sg) → lookE 5 env = some (.str d) →
    (∀ env' st2, Ext st st2 → lookE 4 env' = some (.str sg) → lookE 5 env' = some (.str (decD u d)) → after (CS sum) 31 none ks Q .normal env' st2) →
    WK (CS sum) 31 none c25loop (.block 0 :: ks) env st1 Q := by
  intro m
  induction m with
  | zero => intro u d st1 _ h; omega
  | succ m ih =>
    intro u d st1 hu hm hlen hext env h3 h4 h5 hfin
    refine WK.sub [(3, .int .u64 (u : Int)), (4, .str sg), (5, .str d)] ?_ ?_
    · intro t v ht
      simp only [lookE_cons] at ht
      by_cases e3 : t = 3
      · rw [if_pos e3] at ht; subst e3; rw [h3]; exact ht
      rw [if_neg e3] at ht
      by_cases e4 : t = 4
      · rw [if_pos e4] at ht; subst e4; rw [h4]; exact ht
      rw [if_neg e4] at ht
      by_cases e5 : t = 5
      · rw [if_pos e5] at ht; subst e5; rw [h5]; exact ht
      rw [if_neg e5] at ht
      cases ht
    unfold c25loop
    refine WK.loop ?_
    have hmod : u % 10 < 10 := Nat.mod_lt _ (by decide)
    have hlog : u ≠ 0 → (if u / 10 = 0 then 0 else (u / 10).log2 + 1) ≤ u.log2 := by
      intro h0
      split
      · exact Nat.zero_le _
      · rename_i h1
        have e1 := Nat.log2_self_le h1
        have : (u / 10).log2 + 1 ≤ u.log2 := (Nat.le_log2 h0).2 (by rw [Nat.pow_succ]; omega)
        exact this
    by_cases hu0 : u = 0
    · by_cases hd : d = []
      · have q1 : iltb 0 (u : Int) = false := by rw [iltb_eq]; simp; omega
        have q2 : eqL d [] = true := by rw [hd]; rfl
        refine WK.seq ?_
        refine WK.seq ?_
        refine WK.region ?_
        refine WR.op rfl rfl rfl rfl ?_
        refine WR.op rfl rfl (r_gtr rfl rfl q1) rfl ?_
        refine WR.op rfl rfl rfl rfl ?_
        refine WR.opG rfl rfl rfl rfl rfl ?_
        refine WR.opG rfl rfl rfl (r_seql rfl rfl q2) rfl ?_
        refine WR.op rfl rfl rfl rfl ?_
        refine WR.nil ?_
        refine after.seq ?_
        refine WK.cond rfl (fun _ => ?_) (fun h => (by cases h))
        refine WK.skip ?_
        refine after.seq ?_
        refine WK.block ?_
        refine WK.seq ?_
        refine WK.region ?_
        refine WR.op rfl rfl rfl rfl ?_
        refine WR.op rfl rfl (r_arith ⟨by decide, by decide⟩ rfl rfl (remU (b := 10) (by decide))) rfl ?_
        refine WR.op rfl rfl (r_arith ⟨by decide, by decide⟩ rfl rfl (addU (a := 48) (by omega))) rfl ?_
        refine WR.op rfl rfl (r_convI (m := ((48 + u % 10 : Nat) : Int)) un125 un5 rfl (by rw [wrapF_eq]; exact IntWalk.u8_in _ (by omega))) rfl ?_
        refine WR.op rfl rfl (r_lit un26 sz5 ze5 rfl rfl rfl) rfl ?_
        refine WR.op rfl rfl (r_bytes1 (n := ((48 + u % 10 : Nat) : Int)) Tryz.underlying9 un26 un5 rfl (stLit_load _ _ _ rfl)) rfl ?_
        refine WR.op rfl rfl rfl rfl ?_
        refine WR.op rfl rfl (r_cat rfl rfl (by simp only [List.length_cons, List.length_nil]; omega)) rfl ?_
        refine WR.op rfl rfl rfl rfl ?_
        refine WR.nil ?_
        refine after.seq ?_
        refine WK.region ?_
        refine WR.op rfl rfl rfl rfl ?_
        refine WR.op rfl rfl (r_arith ⟨by decide, by decide⟩ rfl rfl (quoU (b := 10) (by decide) hu)) rfl ?_
        refine WR.op rfl rfl rfl rfl ?_
        refine WR.nil ?_
        refine after.block ?_
        refine after.seq ?_
        refine ih (u / 10) ([UInt8.ofNat ((48 + u % 10 : Nat) : Int).toNat] ++ d) _ (by omega) (by rw [if_neg (by simp)]; rw [if_pos hd] at hm; omega) ?_ (hext.lit 5 (.int .u8 ((48 + u % 10 : Nat) : Int))) _ rfl rfl rfl fun env' st2 e1 e2 e3 => hfin env' st2 e1 e2 ?_
        · simp only [List.length_append, List.length_cons, List.length_nil]
          rw [hd, hu0]; decide
        · rw [e3]
          exact congrArg (fun x => some (AV.str x)) (decD_step hu d (fun h => h.2 hd))
      · have q1 : iltb 0 (u : Int) = false := by rw [iltb_eq]; simp; omega
        have q2 : eqL d [] = false := by rw [eqL_eq]; simp; exact hd
        refine WK.seq ?_
        refine WK.seq ?_
        refine WK.region ?_
        refine WR.op rfl rfl rfl rfl ?_
        refine WR.op rfl rfl (r_gtr rfl rfl q1) rfl ?_
        refine WR.op rfl rfl rfl rfl ?_
        refine WR.opG rfl rfl rfl rfl rfl ?_
        refine WR.opG rfl rfl rfl (r_seql rfl rfl q2) rfl ?_
        refine WR.op rfl rfl rfl rfl ?_
        refine WR.nil ?_
        refine after.seq ?_
        refine WK.cond rfl (fun h => (by cases h)) (fun _ => ?_)
        refine WK.exit ?_
        refine after.seq_exit ?_
        refine after.seq_exit ?_
        refine after.exit ?_
        exact hfin _ st1 hext rfl (by unfold decD; rw [if_pos ⟨hu0, hd⟩]; rfl)
    · have q1 : iltb 0 (u : Int) = true := by rw [iltb_eq]; simp; omega
      refine WK.seq ?_
      refine WK.seq ?_
      refine WK.region ?_
      refine WR.op rfl rfl rfl rfl ?_
      refine WR.op rfl rfl (r_gtr rfl rfl q1) rfl ?_
      refine WR.op rfl rfl rfl rfl ?_
      refine WR.off rfl rfl rfl rfl rfl ?_
      refine WR.off rfl rfl rfl rfl rfl ?_
      refine WR.op rfl rfl rfl rfl ?_
      refine WR.nil ?_
      refine after.seq ?_
      refine WK.cond rfl (fun _ => ?_) (fun h => (by cases h))
      refine WK.skip ?_
      refine after.seq ?_
      refine WK.block ?_
      refine WK.seq ?_
      refine WK.region ?_
      refine WR.op rfl rfl rfl rfl ?_
      refine WR.op rfl rfl (r_arith ⟨by decide, by decide⟩ rfl rfl (remU (b := 10) (by decide))) rfl ?_
      refine WR.op rfl rfl (r_arith ⟨by decide, by decide⟩ rfl rfl (addU (a := 48) (by omega))) rfl ?_
      refine WR.op rfl rfl (r_convI (m := ((48 + u % 10 : Nat) : Int)) un125 un5 rfl (by rw [wrapF_eq]; exact IntWalk.u8_in _ (by omega))) rfl ?_
      refine WR.op rfl rfl (r_lit un26 sz5 ze5 rfl rfl rfl) rfl ?_
      refine WR.op rfl rfl (r_bytes1 (n := ((48 + u % 10 : Nat) : Int)) Tryz.underlying9 un26 un5 rfl (stLit_load _ _ _ rfl)) rfl ?_
      refine WR.op rfl rfl rfl rfl ?_
      refine WR.op rfl rfl (r_cat rfl rfl (by simp only [List.length_cons, List.length_nil]; omega)) rfl ?_
      refine WR.op rfl rfl rfl rfl ?_
      refine WR.nil ?_
      refine after.seq ?_
      refine WK.region ?_
      refine WR.op rfl rfl rfl rfl ?_
      refine WR.op rfl rfl (r_arith ⟨by decide, by decide⟩ rfl rfl (quoU (b := 10) (by decide) hu)) rfl ?_
      refine WR.op rfl rfl rfl rfl ?_
      refine WR.nil ?_
      refine after.block ?_
      refine after.seq ?_
      refine ih (u / 10) ([UInt8.ofNat ((48 + u % 10 : Nat) : Int).toNat] ++ d) _ (by omega) (by rw [if_neg (by simp)]; split at hm <;> omega) ?_ (hext.lit 5 (.int .u8 ((48 + u % 10 : Nat) : Int))) _ rfl rfl rfl fun env' st2 e1 e2 e3 => hfin env' st2 e1 e2 ?_
      · simp only [List.length_append, List.length_cons, List.length_nil]
        rw [if_neg hu0] at hlen; have := hlog hu0; omega
      · rw [e3]
        exact congrArg (fun x => some (AV.str x)) (decD_step hu d (fun h => hu0 h.1))
theorem dec_ok (hs : ∀ xs st, sum 25 xs st = none) {n : Int} (h1 : -9223372036854775808 ≤ n) (h2 : n ≤ 9223372036854775807) (st : St) : CallW (CS sum) 25 [.int .i64 n] st fun v st' => v = .str (decN n) ∧ Ext st st' := by
  have hu : n.natAbs < 18446744073709551616 := by omega
  have hlog : (if n.natAbs = 0 then 0 else n.natAbs.log2 + 1) ≤ 100 := by
    split
    · omega
    · rename_i h0
      have : n.natAbs.log2 < 64 := (Nat.log2_lt h0).2 hu
      omega
  have hpl := pick_le decS_ok true 10 n.natAbs
  by_cases hn : n < 0
  · have q9 : iltb n 0 = true := by rw [iltb_eq]; simp; exact hn
    have hsg : decN n = [45] ++ decD n.natAbs [] := by
      unfold decN decD
      rw [q9, if_neg (by simp), List.append_nil]; rfl
    refine CallW.enter (hs _ _) Tryz.func25 body25 c25_of rfl ?_
    rw [nt25]
    unfold c25
    refine WK.seq ?_
    refine WK.region ?_
    refine WR.op rfl rfl rfl rfl ?_
    refine WR.nil ?_
    refine after.seq ?_
    refine WK.seq ?_
    refine WK.region ?_
    refine WR.op rfl rfl rfl rfl ?_
    refine WR.op rfl rfl (r_convI (m := n + 18446744073709551616) un3 un125 rfl (by rw [wrapF_eq]; exact u64_of_neg hn (by omega))) rfl ?_
    refine WR.op rfl rfl rfl rfl ?_
    refine WR.nil ?_
    refine after.seq ?_
    refine WK.seq ?_
    refine WK.region ?_
    refine WR.op rfl rfl rfl rfl ?_
    refine WR.nil ?_
    refine after.seq ?_
    refine WK.seq ?_
    refine WK.seq ?_
    refine WK.region ?_
    refine WR.op rfl rfl rfl rfl ?_
    refine WR.op rfl rfl (r_lss rfl rfl q9) rfl ?_
    refine WR.nil ?_
    refine after.seq ?_
    refine WK.cond rfl (fun _ => ?_) (fun h => (by cases h))
    refine WK.seq ?_
    refine WK.region ?_
    refine WR.op rfl rfl rfl rfl ?_
    refine WR.op rfl rfl (r_negU (m := ((n.natAbs : Nat) : Int)) rfl (u64_negneg hn (by omega))) rfl ?_
    refine WR.op rfl rfl rfl rfl ?_
    refine WR.nil ?_
    refine after.seq ?_
    refine WK.region ?_
    refine WR.op rfl rfl rfl rfl ?_
    refine WR.nil ?_
    refine after.seq ?_
    refine WK.seq ?_
    refine WK.region ?_
    refine WR.op rfl rfl rfl rfl ?_
    refine WR.nil ?_
    refine after.seq ?_
    refine WK.seq ?_
    refine WK.block ?_
    refine dec_loop (st := st) (sg := [45]) (n.natAbs + 2) n.natAbs [] _ hu (by simp) (by simpa using hlog) (Ext.refl st) _ rfl rfl rfl fun env2 st2 e1 e2 e3 => ?_
    refine after.seq ?_
    refine WK.seq ?_
    refine WK.region ?_
    refine WR.op rfl rfl (v := .str [45]) (st' := st2) (by simp only [aopR, evE, e2, bnd_some]) rfl ?_
    refine WR.op rfl rfl (v := .str (decD n.natAbs [])) (st' := st2) (by simp only [aopR, evE, lookE_cons, e3]; rfl) rfl ?_
    refine WR.op rfl rfl (r_cat rfl rfl (by unfold decD; rw [if_neg (by simp)]; simp only [List.length_append, List.length_cons, List.length_nil]; omega)) rfl ?_
    refine WR.op rfl rfl rfl rfl ?_
    refine WR.nil ?_
    refine after.seq ?_
    refine WK.ret ?_
    refine ⟨ret_ne 0, ret_ne, [.str ([45] ++ decD n.natAbs [])], (by rw [res25]; rfl), ?_, e1⟩
    rw [hsg]; rfl
  · have q9 : iltb n 0 = false := by rw [iltb_eq]; simp; omega
    have hsg : decN n = [] ++ decD n.natAbs [] := by
      unfold decN decD
      rw [q9, if_neg (by simp), List.append_nil]; rfl
    refine CallW.enter (hs _ _) Tryz.func25 body25 c25_of rfl ?_
    rw [nt25]
    unfold c25
    refine WK.seq ?_
    refine WK.region ?_
    refine WR.op rfl rfl rfl rfl ?_
    refine WR.nil ?_
    refine after.seq ?_
    refine WK.seq ?_
    refine WK.region ?_
    refine WR.op rfl rfl rfl rfl ?_
    refine WR.op rfl rfl (r_convI (m := ((n.natAbs : Nat) : Int)) un3 un125 rfl (by rw [wrapF_eq]; rw [IntWalk.u64_in _ (by omega)]; omega)) rfl ?_
    refine WR.op rfl rfl rfl rfl ?_
    refine WR.nil ?_
    refine after.seq ?_
    refine WK.seq ?_
    refine WK.region ?_
    refine WR.op rfl rfl rfl rfl ?_
    refine WR.nil ?_
    refine after.seq ?_
    refine WK.seq ?_
    refine WK.seq ?_
    refine WK.region ?_
    refine WR.op rfl rfl rfl rfl ?_
    refine WR.op rfl rfl (r_lss rfl rfl q9) rfl ?_
    refine WR.nil ?_
    refine after.seq ?_
    refine WK.cond rfl (fun h => (by cases h)) (fun _ => ?_)
    refine WK.skip ?_
    refine after.seq ?_
    refine WK.seq ?_
    refine WK.region ?_
    refine WR.op rfl rfl rfl rfl ?_
    refine WR.nil ?_
    refine after.seq ?_
    refine WK.seq ?_
    refine WK.block ?_
    refine dec_loop (st := st) (sg := []) (n.natAbs + 2) n.natAbs [] _ hu (by simp) (by simpa using hlog) (Ext.refl st) _ rfl rfl rfl fun env2 st2 e1 e2 e3 => ?_
    refine after.seq ?_
    refine WK.seq ?_
    refine WK.region ?_
    refine WR.op rfl rfl (v := .str []) (st' := st2) (by simp only [aopR, evE, e2, bnd_some]) rfl ?_
    refine WR.op rfl rfl (v := .str (decD n.natAbs [])) (st' := st2) (by simp only [aopR, evE, lookE_cons, e3]; rfl) rfl ?_
    refine WR.op rfl rfl (r_cat rfl rfl (by unfold decD; rw [if_neg (by simp)]; simp only [List.length_append, List.length_nil]; omega)) rfl ?_
    refine WR.op rfl rfl rfl rfl ?_
    refine WR.nil ?_
    refine after.seq ?_
    refine WK.ret ?_
    refine ⟨ret_ne 0, ret_ne, [.str ([] ++ decD n.natAbs [])], (by rw [res25]; rfl), ?_, e1⟩
    rw [hsg]; rfl
end Go.Proofs.Tz
