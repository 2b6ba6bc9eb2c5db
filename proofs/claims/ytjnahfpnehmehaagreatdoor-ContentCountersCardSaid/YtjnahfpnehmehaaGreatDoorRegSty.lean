/- The own registry's Text, of styles of signs at places. -/
import Derived.Test.YtjnahfpnehmehaaGreatDoorRegK
import Derived.Test.YtjnahfpnehmehaaGreatDoorRegC
namespace Go.Proofs.Tz
open Go Go.AE Go.RowKit Go.Proofs
set_option maxRecDepth 100000

/-- Functions that are walked. -/
def walked : List FuncId := [23, 42, 43, 44, 45, 46, 47, 48, 49, 50, 77, 78, 79, 111, 117, 118, 119, 120, 160, 162]
def alpD (nm : List UInt8) (x : AV) : D := ⟨nm, tAlphabetic, 1, x, .nils, [45], [], [], [46, 32], true, .nils, 0, [], tDecimal, [], 0⟩
def numD (nm : List UInt8) (pad : Int) (sign : List UInt8) (x : AV) : D := ⟨nm, tNumeric, 1, x, .nils, [45], [], [], [46, 32], true, .nils, pad, sign, tDecimal, [], 0⟩
noncomputable def alpS (nm : List UInt8) (syms : List (List UInt8)) (n : Int) : Sty := ⟨alpD nm .nils, if 1 ≤ n then pick syms (digs false syms.length n.toNat) else [], decide (1 ≤ n)⟩
noncomputable def numS (nm : List UInt8) (pad : Int) (sign : List UInt8) (syms : List (List UInt8)) (n : Int) : Sty := ⟨numD nm pad sign .nils, pick syms (digs true syms.length n.natAbs), true⟩

theorem posA_len (k : Nat) : ∀ (f n : Nat), (posA k f n).length ≤ f
  | 0, _ => Nat.le_refl 0
  | f + 1, n => by
    rw [posA]
    split
    · simp only [List.length_cons]; have := posA_len k f ((n - 1) / k); omega
    · simp
theorem posZ_len (k : Nat) : ∀ (f n : Nat), (posZ k f n).length ≤ f
  | 0, _ => Nat.le_refl 0
  | f + 1, n => by
    rw [posZ]
    split
    · simp only [List.length_cons]; have := posZ_len k f (n / k); omega
    · simp
theorem digs_len (z : Bool) (k n : Nat) : (digs z k n).length ≤ 60 := by
  cases z with
  | true =>
    show (n % k :: posZ k 40 n).length ≤ 60
    have := posZ_len k 40 n
    simp only [List.length_cons]; omega
  | false =>
    have := posA_len k 40 n
    show (posA k 40 n).length ≤ 60
    omega
theorem pick_le {syms : List (List UInt8)} (hsm : ∀ s ∈ syms, s ≠ [] ∧ s.length ≤ 1000) (z : Bool) (k n : Nat) : (pick syms (digs z k n)).length ≤ 1000000 := by
  have h1 := pick_len hsm (digs z k n).reverse
  have h2 := digs_len z k n
  unfold pick
  rw [List.length_reverse] at h1
  omega

variable {X : Known} {l : List FuncId}
theorem plain_row {x : AV} {d : AV → D} (h1 : (d x).syms = x) (h2 : (d x).weights = .nils) (h3 : (d x).range = .nils) (hx : x.plain = true) : (d x).Plain := ⟨by rw [h1]; exact hx, by rw [h2]; rfl, by rw [h3]; rfl⟩
theorem alp_same (nm : List UInt8) (b len : Nat) : sameV (alpD nm (.slc b 0 len none)).av (alpD nm (.slc b 0 len none)).av = true := D.same (by
  show (Nat.beq b b && Nat.beq 0 0 && Nat.beq len len && optEq none none) = true
  rw [beq_true.2 rfl, beq_true.2 rfl, beq_true.2 rfl]; rfl) rfl rfl
theorem num_same (nm : List UInt8) (pad : Int) (sign : List UInt8) (b len : Nat) : sameV (numD nm pad sign (.slc b 0 len none)).av (numD nm pad sign (.slc b 0 len none)).av = true := D.same (by
  show (Nat.beq b b && Nat.beq 0 0 && Nat.beq len len && optEq none none) = true
  rw [beq_true.2 rfl, beq_true.2 rfl, beq_true.2 rfl]; rfl) rfl rfl
theorem or_alp (hX : Dom X l) (h55 : 55 ∉ l) (h70 : 70 ∉ l) (hs : ∀ f ∈ walked, ∀ xs st, sumK X f xs st = none) {nm : List UInt8} {a f : Nat} {syms : List (List UInt8)} (hd : RowSty nm (alpD nm) a f syms.length syms) (hsm : ∀ s ∈ syms, s ≠ [] ∧ s.length ≤ 1000) (hk : 2 ≤ syms.length) (hk2 : syms.length < 1000000)
    {n : Int} (hn1 : -2147483648 ≤ n) (hn2 : n ≤ 2147483647) {m : Nat} {st : St} (h : RegAt m st) : OrW (CS (sumK X)) n (.ptr (m + 1) 0) nm (m + 405) st (alpS nm syms n) := by
  refine or_sty hX h55 hd (fun x hx => plain_row rfl rfl rfl hx) (fun _ => rfl) h (fun b st' hE hmay => ?_) h70
  have hin : inB (alpD nm (.slc b 0 syms.length none)) [] n = decide (1 ≤ n) := by
    have : inB (alpD nm (.slc b 0 syms.length none)) [] n = iltb 0 n := rfl
    rw [this, iltb_eq]; rfl
  refine (signs_ok (r := pick syms (digs false syms.length n.toNat)) (q := true) (fun f hf => hs f (by revert f; decide)) (plain_row (d := alpD nm) rfl rfl rfl rfl) hn1 hn2 (ps := []) (by simp) (fun hh => by cases hh) fun hi st1 k1 => ?_).mono fun v st2 ⟨hv, h2⟩ => ⟨?_, h2⟩
  · rw [hin] at hi
    have hn := of_decide_eq_true hi
    have hu : usesB (alpD nm (.slc b 0 syms.length none)).sys n = false := by
      show (true && iltb n 0) = false
      rw [iltb_eq]; simp; omega
    rw [hu]
    have e : n = ((n.toNat : Nat) : Int) := by omega
    have := signs_alp (fun f hf => hs f (by revert f; decide)) (plain_row (d := alpD nm) rfl rfl rfl (rfl : (AV.slc b 0 syms.length none).plain = true)) (alp_same nm b syms.length) rfl (st := st1) (fun st3 k3 => hmay st3 (k1.trans k3)) (hE.ext k1) hsm hk hk2 n.toNat (by omega) (by omega)
    rw [if_pos (digs_len _ _ _), decide_eq_true (digs_len _ _ _), ← e] at this
    exact this
  · rw [hv, hin]
    by_cases hn : 1 ≤ n
    · simp only [alpS, hn, decide_true, if_true, Bool.and_true]
    · simp only [alpS, hn, decide_false, if_false, Bool.false_and, Bool.false_eq_true]
theorem or_num (hX : Dom X l) (h55 : 55 ∉ l) (h70 : 70 ∉ l) (hs : ∀ f ∈ walked, ∀ xs st, sumK X f xs st = none) {key nm : List UInt8} {pad : Int} {sign : List UInt8} {a f : Nat} {syms : List (List UInt8)} (hd : RowSty key (numD nm pad sign) a f syms.length syms) (hsm : ∀ s ∈ syms, s ≠ [] ∧ s.length ≤ 1000) (hk : 2 ≤ syms.length) (hk2 : syms.length < 1000000)
    {n : Int} (hn1 : -2147483648 ≤ n) (hn2 : n ≤ 2147483647) {m : Nat} {st : St} (h : RegAt m st) : OrW (CS (sumK X)) n (.ptr (m + 1) 0) key (m + 405) st (numS nm pad sign syms n) := by
  refine or_sty hX h55 hd (fun x hx => plain_row rfl rfl rfl hx) (fun _ => rfl) h (fun b st' hE hmay => ?_) h70
  have hin : inB (numD nm pad sign (.slc b 0 syms.length none)) [] n = true := rfl
  refine (signs_ok (r := pick syms (digs true syms.length n.natAbs)) (q := true) (fun f hf => hs f (by revert f; decide)) (plain_row (d := numD nm pad sign) rfl rfl rfl rfl) hn1 hn2 (ps := []) (by simp) (fun hh => by cases hh) fun hi st1 k1 => ?_).mono fun v st2 ⟨hv, h2⟩ => ⟨?_, h2⟩
  · have hu : usesB (numD nm pad sign (.slc b 0 syms.length none)).sys n = decide (n < 0) := by
      show (true && iltb n 0) = _
      rw [iltb_eq]; rfl
    have e : (if usesB (numD nm pad sign (.slc b 0 syms.length none)).sys n = true then -n else n) = ((n.natAbs : Nat) : Int) := by
      rw [hu]
      by_cases h0 : n < 0
      · rw [if_pos (by simpa using h0)]; omega
      · rw [if_neg (by simpa using h0)]; omega
    rw [e]
    have := signs_num (fun f hf => hs f (by revert f; decide)) (plain_row (d := numD nm pad sign) rfl rfl rfl (rfl : (AV.slc b 0 syms.length none).plain = true)) (num_same nm pad sign b syms.length) rfl (st := st1) (fun st3 k3 => hmay st3 (k1.trans k3)) (hE.ext k1) hsm hk hk2 n.natAbs (by omega) (by omega)
    rw [if_pos (digs_len _ _ _), decide_eq_true (digs_len _ _ _)] at this
    exact this
  · rw [hv, hin]; rfl

/-! Rows of signs -/
def decS : List (List UInt8) := [[48], [49], [50], [51], [52], [53], [54], [55], [56], [57]]
def lowS : List (List UInt8) := (List.range 26).map fun i => [UInt8.ofNat (97 + i)]
def uppS : List (List UInt8) := (List.range 26).map fun i => [UInt8.ofNat (65 + i)]
def grkS : List (List UInt8) := ((List.range 25).filter (· != 17)).map fun i => if i < 15 then [206, UInt8.ofNat (177 + i)] else [207, UInt8.ofNat (128 + (i - 15))]
theorem row_dec : RowSty nm0 (numD nm0 0 []) 530 530 decS.length decS := ⟨by kernel_rfl, fun σ => by kernel_rfl, ⟨by decide, show 530 < 532 by decide⟩, fun e => ⟨_, 10, rfl, by kernel_rfl⟩, fun e => ⟨⟨530, 530, 0⟩, by kernel_rfl, Nat.le_refl _⟩, rfl⟩
theorem row_dlz : RowSty nm1 (numD nm1 2 [48]) 556 556 decS.length decS := ⟨by kernel_rfl, fun σ => by kernel_rfl, ⟨by decide, show 556 < 558 by decide⟩, fun e => ⟨_, 10, rfl, by kernel_rfl⟩, fun e => ⟨⟨556, 556, 0⟩, by kernel_rfl, Nat.le_refl _⟩, rfl⟩
theorem row_low : RowSty nm2 (alpD nm2) 538 538 lowS.length lowS := ⟨by kernel_rfl, fun σ => by kernel_rfl, ⟨by decide, show 538 < 540 by decide⟩, fun e => ⟨_, 26, rfl, by kernel_rfl⟩, fun e => ⟨⟨538, 538, 0⟩, by kernel_rfl, Nat.le_refl _⟩, rfl⟩
theorem row_upp : RowSty nm3 (alpD nm3) 538 538 uppS.length uppS := ⟨by kernel_rfl, fun σ => by kernel_rfl, ⟨by decide, show 538 < 540 by decide⟩, fun e => ⟨_, 26, rfl, by kernel_rfl⟩, fun e => ⟨⟨538, 538, 0⟩, by kernel_rfl, Nat.le_refl _⟩, rfl⟩
theorem row_grk : RowSty nm6 (alpD nm6) 538 538 grkS.length grkS := ⟨by kernel_rfl, fun σ => by kernel_rfl, ⟨by decide, show 538 < 540 by decide⟩, fun e => ⟨_, 24, rfl, by kernel_rfl⟩, fun e => ⟨⟨538, 538, 0⟩, by kernel_rfl, Nat.le_refl _⟩, rfl⟩
theorem row_none : RowSty nm11 (numD nm0 0 []) 567 567 decS.length decS := ⟨by kernel_rfl, fun σ => by kernel_rfl, ⟨by decide, show 567 < 568 by decide⟩, fun e => ⟨_, 10, rfl, by kernel_rfl⟩, fun e => ⟨⟨567, 567, 0⟩, by kernel_rfl, Nat.le_refl _⟩, rfl⟩
theorem decS_ok : ∀ s ∈ decS, s ≠ [] ∧ s.length ≤ 1000 := by decide
theorem lowS_ok : ∀ s ∈ lowS, s ≠ [] ∧ s.length ≤ 1000 := by decide
theorem uppS_ok : ∀ s ∈ uppS, s ≠ [] ∧ s.length ≤ 1000 := by decide
theorem grkS_ok : ∀ s ∈ grkS, s ≠ [] ∧ s.length ≤ 1000 := by decide

/-! Text -/
theorem heldN_id {n : Int} (h1 : -2147483648 ≤ n) (h2 : n ≤ 2147483647) : heldN n = n := by unfold heldN; omega
theorem heldN_lo (n : Int) : -2147483648 ≤ heldN n := by unfold heldN; omega
theorem heldN_hi (n : Int) : heldN n ≤ 2147483647 := by unfold heldN; omega
theorem repeat_none {s : Sty} (hs : ∀ xs st, sumK X 50 xs st = none) (n : Int) (hp : s.base.pad = 0) (st : St) : CallW (CS (sumK X)) 50 [.str s.base.padSign, .int .i64 (max (s.base.pad - (longN s n : Int)) 0)] st fun v st2 => v = .str [] ∧ Ext st st2 := by
  have e : max (s.base.pad - (longN s n : Int)) 0 = 0 := by rw [hp]; omega
  rw [e]
  exact (repeat0_ok hs s.base.padSign st).mono fun v st2 ⟨h1, h2⟩ => ⟨h1, by rw [h2]; exact Ext.refl _⟩
theorem last_one {C : Ctx} {n : Int} {s : Sty} {st0 st' : St} {v : AV} {b0 : Nat} (hb : b0 ≤ st0.next) (h : (∃ d f lo hi, st0.next ≤ lo ∧ hi ≤ st'.next ∧ IsSty C n (Own b0 lo hi) st' d s ∧ IsRow st' v f 75 16 [d.cells]) ∧ Ext st0 st') : Last C n s v st' ∧ Ext st0 st' := by
  obtain ⟨⟨d, f, lo, hi, h1, h2, h3, h4⟩, h5⟩ := h
  exact ⟨⟨[], d, f, _, fun k hk => hk.elim (fun h => by have := h5.nx; omega) (fun h => by omega), by simp, h3, h4⟩, h5⟩
theorem last_two {C : Ctx} {n : Int} {s : Sty} {st0 st' : St} {v : AV} {b0 : Nat} (hb : b0 ≤ st0.next) (h : (∃ (d e : D) (f lo hi : Nat), st0.next ≤ lo ∧ hi ≤ st'.next ∧ IsSty C n (Own b0 lo hi) st' e s ∧ IsRow st' v f 75 16 [d.cells, e.cells]) ∧ Ext st0 st') : Last C n s v st' ∧ Ext st0 st' := by
  obtain ⟨⟨d, e, f, lo, hi, h1, h2, h3, h4⟩, h5⟩ := h
  exact ⟨⟨[d.cells], e, f, _, fun k hk => hk.elim (fun h => by have := h5.nx; omega) (fun h => by omega), by simp, h3, h4⟩, h5⟩
/-- A decimal number. -/
noncomputable def decN (n : Int) : List UInt8 := (bif iltb n 0 then [45] else []) ++ pick decS (digs true 10 n.natAbs)
theorem dec_text (n : Int) : textN (numS nm0 0 [] decS n) [] n = decN n := by
  unfold textN aroundN decN
  have e1 : usesB (numS nm0 0 [] decS n).base.sys n = iltb n 0 := rfl
  rw [e1]
  cases iltb n 0 with
  | true =>
    show (([45] ++ []) ++ pick decS (digs true decS.length n.natAbs)) ++ [] = _
    rw [List.append_nil, List.append_nil]; rfl
  | false =>
    show (([] ++ []) ++ pick decS (digs true decS.length n.natAbs)) ++ [] = _
    rw [List.append_nil]; rfl
theorem text_dec (hX : Dom X l) (h55 : 55 ∉ l) (h70 : 70 ∉ l) (hs : ∀ f ∈ walked, ∀ xs st, sumK X f xs st = none) (n : Int) {m : Nat} {st : St} (h : RegAt m st) : CallW (CS (sumK X)) 23 [.ptr (m + 1) 0, .str nm0, .int .i64 n] st fun v st' => v = .str (decN (heldN n)) ∧ Ext st st' := by
  have hb := h.le
  rw [← dec_text]
  exact text_ok (s := numS nm0 0 [] decS (heldN n)) (p := []) (fun f hf => hs f (by revert f; decide)) (fun st' hE => (chain_one (hs 46 (by decide)) (b0 := m + 405) (by have := hE.nx; omega) (or_num hX h55 h70 hs row_dec decS_ok (by decide) (by decide) (heldN_lo n) (heldN_hi n) (h.ext hE)) (.inl rfl)).mono fun v st2 hh => last_one (by have := hE.nx; omega) hh)
    (pick_le decS_ok _ _ _) (show 1 ≤ 1000000 by decide) (Nat.zero_le _) (Int.le_refl 0) (show (0 : Int) ≤ 1000000 by decide) (Nat.zero_le _) fun st' => repeat_none (hs 50 (by decide)) _ rfl st'
theorem alp_text {nm : List UInt8} {syms : List (List UInt8)} {n : Int} (hn : 1 ≤ n) : textN (alpS nm syms n) [] n = pick syms (digs false syms.length n.toNat) := by
  unfold textN aroundN
  have e1 : usesB (alpS nm syms n).base.sys n = iltb n 0 := rfl
  have e2 : iltb n 0 = false := by rw [iltb_eq]; simp; omega
  rw [e1, e2]
  show (([] ++ []) ++ (if 1 ≤ n then pick syms (digs false syms.length n.toNat) else [])) ++ [] = _
  rw [if_pos hn, List.append_nil]; rfl
theorem text_alp (hX : Dom X l) (h55 : 55 ∉ l) (h70 : 70 ∉ l) (hs : ∀ f ∈ walked, ∀ xs st, sumK X f xs st = none) {nm : List UInt8} {a f : Nat} {syms : List (List UInt8)} (hd : RowSty nm (alpD nm) a f syms.length syms) (hsm : ∀ s ∈ syms, s ≠ [] ∧ s.length ≤ 1000) (hk : 2 ≤ syms.length) (hk2 : syms.length < 1000000) (hnd : eqL nm tDecimal = false) (hnd2 : eqL tDecimal nm = false)
    (n : Int) {m : Nat} {st : St} (h : RegAt m st) : CallW (CS (sumK X)) 23 [.ptr (m + 1) 0, .str nm, .int .i64 n] st fun v st' => v = .str (if 1 ≤ heldN n then pick syms (digs false syms.length (heldN n).toNat) else decN (heldN n)) ∧ Ext st st' := by
  have hb := h.le
  by_cases hn : 1 ≤ heldN n
  · rw [if_pos hn, ← alp_text (nm := nm) hn]
    refine text_ok (s := alpS nm syms (heldN n)) (p := []) (fun f hf => hs f (by revert f; decide)) (fun st' hE => (chain_one (hs 46 (by decide)) (b0 := m + 405) (by have := hE.nx; omega) (or_alp hX h55 h70 hs hd hsm hk hk2 (heldN_lo n) (heldN_hi n) (h.ext hE)) (.inl ?_)).mono fun v st2 hh => last_one (by have := hE.nx; omega) hh)
      ?_ (show 1 ≤ 1000000 by decide) (Nat.zero_le _) (Int.le_refl 0) (show (0 : Int) ≤ 1000000 by decide) (Nat.zero_le _) fun st' => repeat_none (hs 50 (by decide)) _ rfl st'
    · exact decide_eq_true hn
    · show (if 1 ≤ heldN n then _ else _ : List UInt8).length ≤ _
      rw [if_pos hn]
      exact pick_le hsm _ _ _
  · rw [if_neg hn, ← dec_text]
    exact text_ok (s := numS nm0 0 [] decS (heldN n)) (p := []) (fun f hf => hs f (by revert f; decide)) (fun st' hE => (chain_two (hs 46 (by decide)) (b0 := m + 405) (s := alpS nm syms (heldN n)) (by have := hE.nx; omega) (or_alp hX h55 h70 hs hd hsm hk hk2 (heldN_lo n) (heldN_hi n) (h.ext hE)) (or_num hX h55 h70 hs row_dec decS_ok (by decide) (by decide) (heldN_lo n) (heldN_hi n) (h.ext hE)) (decide_eq_false hn) hnd hnd2 (.inl rfl)).mono fun v st2 hh => last_two (by have := hE.nx; omega) hh)
      (pick_le decS_ok _ _ _) (show 1 ≤ 1000000 by decide) (Nat.zero_le _) (Int.le_refl 0) (show (0 : Int) ≤ 1000000 by decide) (Nat.zero_le _) fun st' => repeat_none (hs 50 (by decide)) _ rfl st'
theorem text_low (hX : Dom X l) (h55 : 55 ∉ l) (h70 : 70 ∉ l) (hs : ∀ f ∈ walked, ∀ xs st, sumK X f xs st = none) (n : Int) {m : Nat} {st : St} (h : RegAt m st) : CallW (CS (sumK X)) 23 [.ptr (m + 1) 0, .str nm2, .int .i64 n] st fun v st' => v = .str (if 1 ≤ heldN n then pick lowS (digs false 26 (heldN n).toNat) else decN (heldN n)) ∧ Ext st st' := text_alp hX h55 h70 hs row_low lowS_ok (by decide) (by decide) (by kernel_rfl) (by kernel_rfl) n h
theorem text_upp (hX : Dom X l) (h55 : 55 ∉ l) (h70 : 70 ∉ l) (hs : ∀ f ∈ walked, ∀ xs st, sumK X f xs st = none) (n : Int) {m : Nat} {st : St} (h : RegAt m st) : CallW (CS (sumK X)) 23 [.ptr (m + 1) 0, .str nm3, .int .i64 n] st fun v st' => v = .str (if 1 ≤ heldN n then pick uppS (digs false 26 (heldN n).toNat) else decN (heldN n)) ∧ Ext st st' := text_alp hX h55 h70 hs row_upp uppS_ok (by decide) (by decide) (by kernel_rfl) (by kernel_rfl) n h
theorem text_grk (hX : Dom X l) (h55 : 55 ∉ l) (h70 : 70 ∉ l) (hs : ∀ f ∈ walked, ∀ xs st, sumK X f xs st = none) (n : Int) {m : Nat} {st : St} (h : RegAt m st) : CallW (CS (sumK X)) 23 [.ptr (m + 1) 0, .str nm6, .int .i64 n] st fun v st' => v = .str (if 1 ≤ heldN n then pick grkS (digs false 24 (heldN n).toNat) else decN (heldN n)) ∧ Ext st st' := text_alp hX h55 h70 hs row_grk grkS_ok (by decide) (by decide) (by kernel_rfl) (by kernel_rfl) n h
end Go.Proofs.Tz
