/- Roman numbers: what their styles tell. -/
import Derived.Test.YtjnahfpnehmehaaGreatDoorReg16
import Derived.Test.YtjnahfpnehmehaaGreatDoorRegSty
namespace Go.Proofs.Tz
open Go Go.AE Go.RowKit Go.Proofs
set_option maxRecDepth 100000
section
variable {sum : FuncId → List AV → St → Option (AV × St)}
theorem signs_add (hs : ∀ xs st, sum 79 xs st = none) {d : D} (hd : d.Plain) (hsys : d.sys = tAdditive) {syms : List (List UInt8)} {st : St} (hmay : ∀ st1, Ext st st1 → CallW (CS sum) 70 [d.av] st1 fun v st' => v = .bool true ∧ Ext st1 st') (hsy : Els st d.syms 1 (syms.map strC)) (n : Nat) (hn : n ≤ 2147483648) {r : List UInt8} {q : Bool}
    (hadd : ∀ st1, Ext st st1 → CallW (CS sum) 121 [d.av, .int .i64 (n : Int)] st1 fun v st' => v = .tup [.str r, .bool q] ∧ Ext st1 st') :
    CallW (CS sum) 79 [d.av, .int .i64 (n : Int)] st fun v st' => v = .tup [.str r, .bool q] ∧ Ext st st' := by
  have hb0 := push_self st (boxO 75 d.av)
  have hext0 : Ext st (st.push (boxO 75 d.av)) := (Ext.refl st).push _
  have hlt0 : st.next < (st.push (boxO 75 d.av)).next := by rw [push_next]; omega
  have hlm : (syms.map strC).length = syms.length := List.length_map _
  refine CallW.enter (hs _ _) Tryz.func79 body79 c79_of rfl ?_
  rw [nt79]
  unfold c79
  refine WK.seq ?_
  refine WK.region ?_
  refine WR.op rfl rfl (r_box rfl hd.ok) rfl ?_
  refine WR.op rfl rfl rfl rfl ?_
  refine WR.op rfl rfl rfl rfl ?_
  refine WR.nil ?_
  refine after.seq ?_
  refine WK.seq ?_
  refine WK.seq ?_
  refine WK.region ?_
  refine WR.op rfl rfl (r_ldA agg75 sz75 rfl hb0 (Nat.le_refl 16) rfl) rfl ?_
  refine WR.call (f := 70) («as» := [d.av]) rfl (.inl rfl) rfl rfl rfl rfl ((hmay _ hext0).mono ?_)
  rintro v1 st1 ⟨rfl, k1⟩
  have hb1 : st1.heap.get st.next = some (boxO 75 d.av) := by rw [k1.heap _ hlt0]; exact hb0
  have hln : ∀ {ρ : Rho} {y : Operand}, ρ y = some d.syms → aopR Tryz.prog ρ st1 (.call ⟨.builtin .len, #[y], #[31]⟩) = some (.int .i64 (syms.length : Int), st1) := by
    intro ρ y hy
    rw [← hlm]
    exact r_lenE ⟨_, un31⟩ hy (hsy.ext (hext0.trans k1))
  refine WR.op rfl rfl rfl rfl ?_
  refine WR.op rfl rfl rfl rfl ?_
  refine WR.opG rfl rfl rfl rfl rfl ?_
  refine WR.opG rfl rfl rfl (r_lss rfl rfl (q := false) (by rw [iltb_eq]; simp <;> omega)) rfl ?_
  refine WR.op rfl rfl rfl rfl ?_
  refine WR.op rfl rfl rfl rfl ?_
  refine WR.opG rfl rfl rfl rfl rfl ?_
  refine WR.opG rfl rfl rfl (r_gtr rfl rfl (q := false) (by rw [iltb_eq]; simp <;> omega)) rfl ?_
  refine WR.op rfl rfl rfl rfl ?_
  refine WR.nil ?_
  refine after.seq ?_
  refine WK.cond rfl (fun h => (by cases h)) (fun _ => ?_)
  refine WK.skip ?_
  refine after.seq ?_
  refine WK.seq ?_
  refine WK.region ?_
  refine WR.op rfl rfl (r_fa fo75_3 rfl) rfl ?_
  refine WR.op rfl rfl (r_ld agg31 rfl hb1 rfl) rfl ?_
  refine WR.op rfl rfl (hln rfl) rfl ?_
  refine WR.op rfl rfl rfl rfl ?_
  refine WR.nil ?_
  refine after.seq ?_
  refine WK.seq ?_
  refine WK.seq ?_
  refine WK.region ?_
  refine WR.op rfl rfl (r_fa fo75_1 rfl) rfl ?_
  refine WR.op rfl rfl (r_ld agg9 rfl hb1 rfl) rfl ?_
  refine WR.nil ?_
  refine after.seq ?_
  refine WK.block ?_
  refine WK.seq ?_
  refine WK.region ?_
  refine WR.op rfl rfl (r_seql rfl rfl (q := false) (by rw [hsys]; kernel_rfl)) rfl ?_
  refine WR.op rfl rfl rfl rfl ?_
  refine WR.nil ?_
  refine after.seq ?_
  refine WK.cond rfl (fun h => (by cases h)) (fun _ => ?_)
  refine WK.seq ?_
  refine WK.region ?_
  refine WR.op rfl rfl (r_seql rfl rfl (q := false) (by rw [hsys]; kernel_rfl)) rfl ?_
  refine WR.op rfl rfl rfl rfl ?_
  refine WR.nil ?_
  refine after.seq ?_
  refine WK.cond rfl (fun h => (by cases h)) (fun _ => ?_)
  refine WK.seq ?_
  refine WK.region ?_
  refine WR.op rfl rfl (r_seql rfl rfl (q := false) (by rw [hsys]; kernel_rfl)) rfl ?_
  refine WR.op rfl rfl rfl rfl ?_
  refine WR.nil ?_
  refine after.seq ?_
  refine WK.cond rfl (fun h => (by cases h)) (fun _ => ?_)
  refine WK.seq ?_
  refine WK.region ?_
  refine WR.op rfl rfl (r_seql rfl rfl (q := false) (by rw [hsys]; kernel_rfl)) rfl ?_
  refine WR.op rfl rfl rfl rfl ?_
  refine WR.nil ?_
  refine after.seq ?_
  refine WK.cond rfl (fun h => (by cases h)) (fun _ => ?_)
  refine WK.seq ?_
  refine WK.region ?_
  refine WR.op rfl rfl (r_seql rfl rfl (q := false) (by rw [hsys]; kernel_rfl)) rfl ?_
  refine WR.op rfl rfl rfl rfl ?_
  refine WR.nil ?_
  refine after.seq ?_
  refine WK.cond rfl (fun h => (by cases h)) (fun _ => ?_)
  refine WK.seq ?_
  refine WK.region ?_
  refine WR.op rfl rfl (r_seql rfl rfl (q := true) (by rw [hsys]; kernel_rfl)) rfl ?_
  refine WR.op rfl rfl rfl rfl ?_
  refine WR.nil ?_
  refine after.seq ?_
  refine WK.cond rfl (fun _ => ?_) (fun h => (by cases h))
  refine WK.seq ?_
  refine WK.region ?_
  refine WR.op rfl rfl rfl rfl ?_
  refine WR.op rfl rfl (r_geq rfl rfl (q := true) (by rw [iltb_eq]; simp)) rfl ?_
  refine WR.nil ?_
  refine after.seq ?_
  refine WK.cond rfl (fun _ => ?_) (fun h => (by cases h))
  refine WK.seq ?_
  refine WK.region ?_
  refine WR.op rfl rfl (r_ldA agg75 sz75 rfl hb1 (Nat.le_refl 16) rfl) rfl ?_
  refine WR.op rfl rfl rfl rfl ?_
  refine WR.call (f := 121) («as» := [d.av, .int .i64 (n : Int)]) rfl (.inl rfl) rfl rfl rfl rfl ((hadd _ (hext0.trans k1)).mono ?_)
  rintro v2 st2 ⟨rfl, k2⟩
  refine WR.op rfl rfl rfl rfl ?_
  refine WR.op rfl rfl rfl rfl ?_
  refine WR.op rfl rfl rfl rfl ?_
  refine WR.op rfl rfl rfl rfl ?_
  refine WR.nil ?_
  refine after.seq ?_
  refine WK.ret ?_
  refine after.block_ret ?_
  refine after.seq_ret ?_
  exact ⟨ret_ne 0, ret_ne, [.str r, .bool q], (by rw [res79]; rfl), rfl, (hext0.trans k1).trans k2⟩
end
def romW : List Nat := [1000, 900, 500, 400, 100, 90, 50, 40, 10, 9, 5, 4, 1]
def romL : List (List UInt8) := [[109], [99, 109], [100], [99, 100], [99], [120, 99], [108], [120, 108], [120], [105, 120], [118], [105, 118], [105]]
def romU : List (List UInt8) := [[77], [67, 77], [68], [67, 68], [67], [88, 67], [76], [88, 76], [88], [73, 88], [86], [73, 86], [73]]
def romD (nm : List UInt8) (x y z : AV) : D := ⟨nm, tAdditive, 1, x, y, [45], [], [], [46, 32], false, z, 0, [], tDecimal, [], 0⟩
/-- The places of a Roman number's signs, the last one first. -/
def romP (n : Nat) : List Nat := (addOut romW 0 n []).2.reverse
noncomputable def romS (nm : List UInt8) (syms : List (List UInt8)) (n : Int) : Sty := ⟨romD nm .nils .nils .nils, if 1 ≤ n ∧ n ≤ 3999 then pick syms (romP n.toNat) else [], decide (1 ≤ n ∧ n ≤ 3999)⟩
theorem romW_ok : ∀ x ∈ romW, 1 ≤ x ∧ x < 2147483648 := by decide
noncomputable def romOk (n : Nat) : Bool := Nat.beq (addOut romW 0 n []).1 0 && (Nat.ble (addOut romW 0 n []).2.length 60 && Nat.ble 1 (addOut romW 0 n []).2.length)
noncomputable def upTo (p : Nat → Bool) : Nat → Bool
  | 0 => true
  | n + 1 => p n && upTo p n
theorem upTo_of {p : Nat → Bool} : ∀ {n : Nat}, upTo p n = true → ∀ k, k < n → p k = true
  | n + 1, h, k, hk => by
    simp only [upTo, Bool.and_eq_true] at h
    by_cases e : k = n
    · rw [e]; exact h.1
    · exact upTo_of h.2 k (by omega)
theorem romOk_all : upTo (fun k => romOk (k + 1)) 3999 = true := by kernel_rfl
theorem rom_sum {n : Nat} (h1 : 1 ≤ n) (h2 : n ≤ 3999) : (addOut romW 0 n []).1 = 0 ∧ (addOut romW 0 n []).2.length ≤ 60 ∧ 1 ≤ (addOut romW 0 n []).2.length := by
  have := upTo_of romOk_all (n - 1) (by omega)
  rw [show n - 1 + 1 = n by omega] at this
  simp only [romOk, Bool.and_eq_true] at this
  obtain ⟨a, b, c⟩ := this
  exact ⟨Nat.eq_of_beq_eq_true a, Nat.le_of_ble_eq_true b, Nat.le_of_ble_eq_true c⟩
variable {X : Known} {l : List FuncId}
/-- A style of Roman numbers, as or answers with it. -/
structure RomSty (key nm : List UInt8) (syms : List (List UInt8)) : Prop where
  own : orName (orIdx key) = key
  v : ∀ σ, ren σ (mOr (orIdx key)).v = (romD nm (.slc (σ 538) 0 13 none) (.slc (σ 540) 0 13 none) (.slc (σ 542) 0 1 none)).av
  sy : ∀ e, (addS (mOr (orIdx key)) (sN e)).heap.get 538 = some (.cells ⟨9, 1, setEls .nil 0 (syms.map strC), 13, 13, .opn 538⟩)
  we : ∀ e, (addS (mOr (orIdx key)) (sN e)).heap.get 540 = some (.cells ⟨3, 1, setEls .nil 0 (romW.map intC), 13, 13, .opn 540⟩)
  ra : ∀ e, (addS (mOr (orIdx key)) (sN e)).heap.get 542 = some (.cells ⟨81, 2, setEls .nil 0 ([((1 : Int), (3999 : Int))].map pairC), 1, 1, .opn 542⟩)
  fa : ∀ e, (addS (mOr (orIdx key)) (sN e)).fams.get 538 = some ⟨538, 538, 0⟩ ∧ (addS (mOr (orIdx key)) (sN e)).fams.get 540 = some ⟨540, 540, 0⟩ ∧ (addS (mOr (orIdx key)) (sN e)).fams.get 542 = some ⟨542, 542, 0⟩
  len : syms.length = 13
  ok : ∀ s ∈ syms, s ≠ [] ∧ s.length ≤ 1000
theorem or_rom (hX : Dom X l) (h55 : 55 ∉ l) (h70 : 70 ∉ l) (hs : ∀ f ∈ 121 :: 164 :: walked, ∀ xs st, sumK X f xs st = none) {key nm : List UInt8} {syms : List (List UInt8)} (hd : RomSty key nm syms)
    {n : Int} (hn1 : -2147483648 ≤ n) (hn2 : n ≤ 2147483647) {m : Nat} {st : St} (h : RegAt m st) : OrW (CS (sumK X)) n (.ptr (m + 1) 0) key (m + 405) st (romS nm syms n) := by
  refine or_gen hX h55 h70 hd.own (d := fun σ => romD nm (.slc (σ 538) 0 13 none) (.slc (σ 540) 0 13 none) (.slc (σ 542) 0 1 none)) hd.v (fun _ => ⟨rfl, rfl, rfl⟩) (fun _ => rfl) h fun σ e st' hp hNF hmay => ?_
  obtain ⟨f1, f2, f3⟩ := hd.fa e
  have hE1 := or_els hp (hd.sy e) ⟨_, f1, Nat.le_refl _⟩ (len := 13) (by rw [List.length_map, hd.len]) (by rw [List.length_map, hd.len]) (strC_ren σ syms)
  have hE2 := or_els hp (hd.we e) ⟨_, f2, Nat.le_refl _⟩ (len := 13) rfl rfl rfl
  have hE3 := or_els hp (hd.ra e) ⟨_, f3, Nat.le_refl _⟩ (len := 1) rfl rfl rfl
  have hin : inB (romD nm (.slc (σ 538) 0 13 none) (.slc (σ 540) 0 13 none) (.slc (σ 542) 0 1 none)) [((1 : Int), (3999 : Int))] n = decide (1 ≤ n ∧ n ≤ 3999) := by
    have : inB (romD nm (.slc (σ 538) 0 13 none) (.slc (σ 540) 0 13 none) (.slc (σ 542) 0 1 none)) [((1 : Int), (3999 : Int))] n = (((!iltb n 1) && (!iltb 3999 n)) || false) := rfl
    rw [this, iltb_eq, iltb_eq]
    by_cases a : n < 1
    · have : ¬ (1 ≤ n ∧ n ≤ 3999) := by omega
      simp [a, this]
    · by_cases b : 3999 < n
      · have : ¬ (1 ≤ n ∧ n ≤ 3999) := by omega
        simp [a, b, this]
      · have : 1 ≤ n ∧ n ≤ 3999 := by omega
        simp [a, b, this]
  refine (signs_ok (r := pick syms (romP n.toNat)) (q := true) (fun f hf => hs f (by revert f; decide)) (d := romD nm (.slc (σ 538) 0 13 none) (.slc (σ 540) 0 13 none) (.slc (σ 542) 0 1 none)) ⟨rfl, rfl, rfl⟩ hn1 hn2 (ps := [((1 : Int), (3999 : Int))]) (by simp) (fun _ => hE3) fun hi st1 k1 => ?_).mono fun v st2 ⟨hv, h2⟩ => ⟨?_, h2⟩
  · rw [hin] at hi
    have hn := of_decide_eq_true hi
    have hu : usesB (romD nm (.slc (σ 538) 0 13 none) (.slc (σ 540) 0 13 none) (.slc (σ 542) 0 1 none)).sys n = false := by
      show (true && iltb n 0) = false
      rw [iltb_eq]; simp; omega
    rw [hu]
    have e : n = ((n.toNat : Nat) : Int) := by omega
    obtain ⟨s1, s2, s3⟩ := rom_sum (n := n.toNat) (by omega) (by omega)
    have := signs_add (hs 79 (by decide)) (d := romD nm (.slc (σ 538) 0 13 none) (.slc (σ 540) 0 13 none) (.slc (σ 542) 0 1 none)) ⟨rfl, rfl, rfl⟩ rfl (st := st1) (fun st3 k3 => hmay st3 (k1.trans k3)) (hE1.ext k1) n.toNat (by omega) (fun st3 k3 => additive_ok (fun f hf => hs f (by revert f; decide)) (d := romD nm (.slc (σ 538) 0 13 none) (.slc (σ 540) 0 13 none) (.slc (σ 542) 0 1 none)) ⟨rfl, rfl, rfl⟩ (hE1.ext (k1.trans k3)) (hE2.ext (k1.trans k3)) romW_ok (by decide) (by rw [hd.len]; rfl) hd.ok (n := n.toNat) (by omega) (by omega) s1 s2 s3 (hNF.ext (k1.trans k3)))
    rw [← e] at this
    exact this
  · rw [hv, hin]
    by_cases hn : 1 ≤ n ∧ n ≤ 3999
    · simp only [romS, hn, decide_true, if_true, Bool.and_true, and_self]
    · simp only [romS, hn, decide_false, if_false, Bool.false_and, Bool.false_eq_true]
theorem row_rol : RomSty nm4 nm4 romL := ⟨by kernel_rfl, fun σ => by kernel_rfl, fun e => by kernel_rfl, fun e => by kernel_rfl, fun e => by kernel_rfl, fun e => ⟨by kernel_rfl, by kernel_rfl, by kernel_rfl⟩, rfl, by decide⟩
theorem row_rou : RomSty nm5 nm5 romU := ⟨by kernel_rfl, fun σ => by kernel_rfl, fun e => by kernel_rfl, fun e => by kernel_rfl, fun e => by kernel_rfl, fun e => ⟨by kernel_rfl, by kernel_rfl, by kernel_rfl⟩, rfl, by decide⟩
theorem row_roU : RomSty nm10 nm5 romU := ⟨by kernel_rfl, fun σ => by kernel_rfl, fun e => by kernel_rfl, fun e => by kernel_rfl, fun e => by kernel_rfl, fun e => ⟨by kernel_rfl, by kernel_rfl, by kernel_rfl⟩, rfl, by decide⟩
theorem rom_text {nm : List UInt8} {syms : List (List UInt8)} {n : Int} (hn : 1 ≤ n ∧ n ≤ 3999) : textN (romS nm syms n) [] n = pick syms (romP n.toNat) := by
  unfold textN aroundN
  have e1 : usesB (romS nm syms n).base.sys n = iltb n 0 := rfl
  have e2 : iltb n 0 = false := by rw [iltb_eq]; simp; omega
  rw [e1, e2]
  show (([] ++ []) ++ (if 1 ≤ n ∧ n ≤ 3999 then pick syms (romP n.toNat) else [])) ++ [] = _
  rw [if_pos hn, List.append_nil, List.append_nil, List.nil_append]
theorem text_rom (hX : Dom X l) (h55 : 55 ∉ l) (h70 : 70 ∉ l) (hs : ∀ f ∈ 121 :: 164 :: walked, ∀ xs st, sumK X f xs st = none) {key nm : List UInt8} {syms : List (List UInt8)} (hd : RomSty key nm syms) (hnd : eqL nm tDecimal = false) (hnd2 : eqL tDecimal nm = false)
    (n : Int) {m : Nat} {st : St} (h : RegAt m st) : CallW (CS (sumK X)) 23 [.ptr (m + 1) 0, .str key, .int .i64 n] st fun v st' => v = .str (if 1 ≤ heldN n ∧ heldN n ≤ 3999 then pick syms (romP (heldN n).toNat) else decN (heldN n)) ∧ Ext st st' := by
  have hb := h.le
  have hsw : ∀ f ∈ walked, ∀ xs st, sumK X f xs st = none := fun f hf => hs f (by simp [hf])
  by_cases hn : 1 ≤ heldN n ∧ heldN n ≤ 3999
  · rw [if_pos hn, ← rom_text (nm := nm) hn]
    obtain ⟨_, s2, _⟩ := rom_sum (n := (heldN n).toNat) (by omega) (by omega)
    refine text_ok (s := romS nm syms (heldN n)) (p := []) (fun f hf => hs f (by revert f; decide)) (fun st' hE => (chain_one (hs 46 (by decide)) (b0 := m + 405) (by have := hE.nx; omega) (or_rom hX h55 h70 hs hd (heldN_lo n) (heldN_hi n) (h.ext hE)) (.inl ?_)).mono fun v st2 hh => last_one (by have := hE.nx; omega) hh)
      ?_ (show 1 ≤ 1000000 by decide) (Nat.zero_le _) (Int.le_refl 0) (show (0 : Int) ≤ 1000000 by decide) (Nat.zero_le _) fun st' => repeat_none (hs 50 (by decide)) _ rfl st'
    · exact decide_eq_true hn
    · show (if 1 ≤ heldN n ∧ heldN n ≤ 3999 then _ else _ : List UInt8).length ≤ _
      rw [if_pos hn]
      have h1 := pick_len hd.ok (romP (heldN n).toNat).reverse
      unfold romP at h1 ⊢
      unfold pick
      rw [List.length_reverse, List.length_reverse] at h1
      omega
  · rw [if_neg hn, ← dec_text]
    exact text_ok (s := numS nm0 0 [] decS (heldN n)) (p := []) (fun f hf => hs f (by revert f; decide)) (fun st' hE => (chain_two (hs 46 (by decide)) (b0 := m + 405) (s := romS nm syms (heldN n)) (by have := hE.nx; omega) (or_rom hX h55 h70 hs hd (heldN_lo n) (heldN_hi n) (h.ext hE)) (or_num hX h55 h70 hsw row_dec decS_ok (by decide) (by decide) (heldN_lo n) (heldN_hi n) (h.ext hE)) (decide_eq_false hn) hnd hnd2 (.inl rfl)).mono fun v st2 hh => last_two (by have := hE.nx; omega) hh)
      (pick_le decS_ok _ _ _) (show 1 ≤ 1000000 by decide) (Nat.zero_le _) (Int.le_refl 0) (show (0 : Int) ≤ 1000000 by decide) (Nat.zero_le _) fun st' => repeat_none (hs 50 (by decide)) _ rfl st'
end Go.Proofs.Tz
