/- ContentCounters: the law is true. -/
import Derived.Test.YtjnahfpnehmehaaGreatDoorCnt6
namespace Go.Proofs.Tz
open Go Go.AE Go.RowKit Go.Proofs
set_option maxRecDepth 100000
def L4 : List (List UInt8) := [nm0, nm5, nm11, nm2]
noncomputable def o4 : AObj := .cells ⟨9, 1, setEls .nil 0 (L4.map txC), 4, 4, .rw⟩
theorem lit4 (id : Nat) : oBuildSlice Tryz.prog 31 4 [(0, .str nm0), (1, .str nm5), (2, .str nm11), (3, .str nm2)] id = some (.slc id 0 4 (some 4), o4) := by kernel_rfl
theorem r_lit4 {ρ : Rho} {st : St} {a b c d : Operand} (ha : ρ a = some (.str nm0)) (hb : ρ b = some (.str nm5)) (hc : ρ c = some (.str nm11)) (hd : ρ d = some (.str nm2)) : aopR Tryz.prog ρ st (.buildSlice 31 4 #[(0, a), (1, b), (2, c), (3, d)]) = some (.slc st.next 0 4 (some 4), st.push o4) := by
  simp only [aopR, evpsR, ha, hb, hc, hd, bnd_some, lit4, lay]
theorem o4_els (st : St) : Els (st.push o4) (.slc st.next 0 4 (some 4)) 1 (L4.map txC) := by
  have hg : (st.push o4).heap.get st.next = some o4 := push_self _ _
  refine .inr ⟨st.next, _, _, rfl, hg, ?_, rfl, Nat.le_refl _, fun i hi => ?_, by rw [push_next]; omega, fun f hf => by cases hf⟩
  · unfold cellsOf
    rw [hg]; rfl
  · show (setEls .nil 0 _).get i = _
    rw [setEls_get, if_pos ⟨Nat.zero_le _, by omega⟩, Nat.sub_zero]
theorem bld60a (k : Int) (t sty : List UInt8) : build Tryz.prog 60 [(0, .int .i64 k), (1, .str t), (3, .str sty)] = some (itemV k t [] sty) := by kernel_rfl
theorem bld60b (k : Int) (t sep sty : List UInt8) : build Tryz.prog 60 [(0, .int .i64 k), (1, .str t), (2, .str sep), (3, .str sty)] = some (itemV k t sep sty) := by kernel_rfl
theorem bld60c (k : Int) : build Tryz.prog 60 [(0, .int .i64 k)] = some (itemV k [] [] []) := by kernel_rfl
theorem r_b60a {ρ : Rho} {st : St} {a b c : Operand} {k : Int} {t sty : List UInt8} (ha : ρ a = some (.int .i64 k)) (hb : ρ b = some (.str t)) (hc : ρ c = some (.str sty)) : aopR Tryz.prog ρ st (.build 60 #[(0, a), (1, b), (3, c)]) = some (itemV k t [] sty, st) := by
  simp only [aopR, evpsR, ha, hb, hc, bnd_some, bld60a]
theorem r_b60b {ρ : Rho} {st : St} {a b c d : Operand} {k : Int} {t sep sty : List UInt8} (ha : ρ a = some (.int .i64 k)) (hb : ρ b = some (.str t)) (hd : ρ d = some (.str sep)) (hc : ρ c = some (.str sty)) : aopR Tryz.prog ρ st (.build 60 #[(0, a), (1, b), (2, d), (3, c)]) = some (itemV k t sep sty, st) := by
  simp only [aopR, evpsR, ha, hb, hc, hd, bnd_some, bld60b]
theorem r_b60c {ρ : Rho} {st : St} {a : Operand} {k : Int} (ha : ρ a = some (.int .i64 k)) : aopR Tryz.prog ρ st (.build 60 #[(0, a)]) = some (itemV k [] [] [], st) := by
  simp only [aopR, evpsR, ha, bnd_some, bld60c]
theorem row_plain {st : St} {y : AV} {f e z : Nat} {l : List (List AV)} (h : IsRow st y f e z l) : y.plain = true ∧ y.cells = [y] := by
  rcases h with ⟨rfl, _⟩ | ⟨m, rfl, _⟩ <;> exact ⟨rfl, rfl⟩
/-- The texts of the four styles. -/
noncomputable def txK (k : Nat) (n : Int) : List UInt8 := match k with
  | 1 => if 1 ≤ n ∧ n ≤ 3999 then pick romU (romP n.toNat) else decN n
  | 3 => if 1 ≤ n then pick lowS (digs false 26 n.toNat) else decN n
  | _ => decN n
noncomputable def txB (k : Nat) : Nat → Bool
  | 0 => true
  | n + 1 => !(txK k (n : Int)).isEmpty && Nat.ble (txK k (n : Int)).length 1000 && txB k n
theorem txB_spec {k : Nat} : ∀ {m : Nat}, txB k m = true → ∀ n, n < m → txK k (n : Int) ≠ [] ∧ (txK k (n : Int)).length ≤ 1000
  | 0, _, n, hn => absurd hn (Nat.not_lt_zero n)
  | m + 1, h, n, hn => by
    unfold txB at h
    simp only [Bool.and_eq_true, Bool.not_eq_true', List.isEmpty_eq_false_iff] at h
    by_cases e : n = m
    · subst e; exact ⟨h.1.1, ble_true.1 h.1.2⟩
    · exact txB_spec h.2 n (by omega)
theorem tx_ok {k : Nat} (h : txB k 50 = true) (n : Int) (h0 : 0 ≤ n) (h1 : n < 50) : txK k n ≠ [] ∧ (txK k n).length ≤ 1000 := by
  have := txB_spec h n.toNat (by omega)
  rwa [show ((n.toNat : Nat) : Int) = n from by omega] at this
theorem tx0 : txB 0 50 = true := by kernel_rfl
theorem tx1 : txB 1 50 = true := by kernel_rfl
theorem tx2 : txB 2 50 = true := by kernel_rfl
theorem tx3 : txB 3 50 = true := by kernel_rfl
theorem text_none {X : Known} {l : List FuncId} (hX : Dom X l) (h55 : 55 ∉ l) (h70 : 70 ∉ l) (hs : ∀ f ∈ walked, ∀ xs st, sumK X f xs st = none) (n : Int) {m : Nat} {st : St} (h : RegAt m st) : CallW (CS (sumK X)) 23 [.ptr (m + 1) 0, .str nm11, .int .i64 n] st fun v st' => v = .str (decN (heldN n)) ∧ Ext st st' := by
  have hb := h.le
  rw [← dec_text]
  exact text_ok (s := numS nm0 0 [] decS (heldN n)) (p := []) (fun f hf => hs f (by revert f; decide)) (fun st' hE => (chain_one (hs 46 (by decide)) (b0 := m + 405) (by have := hE.nx; omega) (or_num hX h55 h70 hs row_none decS_ok (by decide) (by decide) (heldN_lo n) (heldN_hi n) (h.ext hE)) (.inl rfl)).mono fun v st2 hh => last_one (by have := hE.nx; omega) hh)
    (pick_le decS_ok _ _ _) (show 1 ≤ 1000000 by decide) (Nat.zero_le _) (Int.le_refl 0) (show (0 : Int) ≤ 1000000 by decide) (Nat.zero_le _) fun st' => repeat_none (hs 50 (by decide)) _ rfl st'
theorem c55 : (55 : FuncId) ∉ [(14 : FuncId)] := by decide
theorem c70 : (70 : FuncId) ∉ [(14 : FuncId)] := by decide
theorem c19 : (19 : FuncId) ∉ [(14 : FuncId)] := by decide
def cntF : List FuncId := [5, 22, 24, 51, 84, 126, 52, 53, 42, 43, 77, 117, 82, 125, 165]
theorem cs_walk : ∀ f ∈ 121 :: 164 :: walked, ∀ xs st, sumK (XA 14) f xs st = none := sumK_nos (XA_dom 14) (by decide)
theorem cs_cnt : ∀ f ∈ cntF, ∀ xs st, sumK (XA 14) f xs st = none := sumK_nos (XA_dom 14) (by decide)
theorem cs_walked : ∀ f ∈ walked, ∀ xs st, sumK (XA 14) f xs st = none := fun f hf => cs_walk f (by simp [hf])
/-- Each of the four styles' texts. -/
theorem text_four {k : Nat} {nm : List UInt8} (hk : L4[k]? = some nm) {m : Nat} {st : St} (h : RegAt m st) (n : Int) (h0 : 0 ≤ n) (h1 : n < 50) : CallW (CS (sumK (XA 14))) 23 [.ptr (m + 1) 0, .str nm, .int .i64 n] st fun v st' => v = .str (txK k n) ∧ Ext st st' := by
  have hid : heldN n = n := heldN_id (by omega) (by omega)
  match k, hk with
  | 0, hk =>
    obtain rfl := Option.some.inj hk
    have := text_dec (XA_dom 14) c55 c70 cs_walked n h
    rw [hid] at this
    exact this
  | 1, hk =>
    obtain rfl := Option.some.inj hk
    have := text_rom (XA_dom 14) c55 c70 cs_walk row_rou (by kernel_rfl) (by kernel_rfl) n h
    rw [hid] at this
    exact this
  | 2, hk =>
    obtain rfl := Option.some.inj hk
    have := text_none (XA_dom 14) c55 c70 cs_walked n h
    rw [hid] at this
    exact this
  | 3, hk =>
    obtain rfl := Option.some.inj hk
    have := text_low (XA_dom 14) c55 c70 cs_walked n h
    rw [hid] at this
    exact this
theorem cnt_main {x : AV} {l : List Int} {sep nm : List UInt8} {style : Int} {k : Nat} {st : St} {e : TypeId} {isN : Bool} (hln : ∀ {ρ : Rho} {y : Operand} {st : St}, ρ y = some x → aopR Tryz.prog ρ st (.call ⟨.builtin .len, #[y], #[55]⟩) = some (.int .i64 (l.length : Int), st)) (hE : l ≠ [] → Els st x 1 (l.map intZ)) (hlen : l.length ≤ 10) (hsp : sep.length ≤ 10)
    (hG : PT id (stG e) st) (hN : NF st) (hK : ∀ {st' : St}, Ext st st' → KnowsG st') (hk : style % 4 = (k : Int)) (hnm : L4[k]? = some nm) (htxk : txB k 50 = true) (hno : eqL nm noneT = isN) :
    CallW (CS (sumK (XA 14))) 5 [x, .str sep, .int .i64 style] st fun v _ => v = .bool true := by
  have hs22 : ∀ xs st, sumK (XA 14) 22 xs st = none := cs_cnt 22 (by decide)
  have hk4 : k < 4 := by omega
  obtain ⟨tx, htx⟩ : ∃ tx, tx = txK k := ⟨_, rfl⟩
  have htx1 := fun n h0 h1 => tx_ok htxk n h0 h1
  rw [← htx] at htx1
  have hT : ∀ {st' : St}, RegAt st.next st' → ∀ n, 0 ≤ n → n < 50 → CallW (CS (sumK (XA 14))) 23 [.ptr (st.next + 1) 0, .str nm, .int .i64 n] st' fun v st2 => v = .str (tx n) ∧ Ext st' st2 := fun h n h0 h1 => by rw [htx]; exact text_four hnm h n h0 h1
  have hv1 := valN_ctrs (l.map (· % 50))
  have hv2 := valsN_ctrs (l.map (· % 50)) 0
  have hv3 : ∀ n ∈ l.map (· % 50), 0 ≤ n ∧ n < 50 := by
    intro n hn
    obtain ⟨a, _, rfl⟩ := List.mem_map.1 hn
    omega
  have hlm : (l.map (· % 50)).length = l.length := List.length_map _
  have hv4 : 0 ≤ (l.map (· % 50)).getLastD 0 ∧ (l.map (· % 50)).getLastD 0 < 50 := by
    rcases List.eq_nil_or_concat (l.map (· % 50)) with h | ⟨p, n, h⟩
    · rw [h]; exact ⟨by decide, by decide⟩
    · have := hv3 n (by rw [h]; simp)
      rw [h, List.concat_eq_append]
      simpa using this
  have hcl := ctrsI_len (l.map (· % 50)) 0
  cases isN with
  | true =>
    have hnn : nm = noneT := by
      rw [eqL_eq] at hno
      exact of_decide_eq_true hno
    by_cases hl : l = []
    · refine CallW.enter (cs_cnt 5 (by decide) _ _) Tryz.func5 body5 c5_of rfl ?_
      rw [nt5]
      unfold c5
      refine WK.seq ?_
      refine WK.region ?_
      refine WR.op rfl rfl rfl rfl ?_
      refine WR.nil ?_
      refine after.seq ?_
      refine WK.seq ?_
      refine WK.seq ?_
      refine WK.region ?_
      refine WR.op rfl rfl rfl rfl ?_
      refine WR.op rfl rfl (hln rfl) rfl ?_
      refine WR.op rfl rfl (r_gtr rfl rfl (iltb_F (by omega))) rfl ?_
      refine WR.op rfl rfl rfl rfl ?_
      refine WR.opG rfl rfl rfl rfl rfl ?_
      refine WR.opG rfl rfl rfl (r_len_str un9 rfl) rfl ?_
      refine WR.opG rfl rfl rfl (r_gtr rfl rfl (iltb_F (by omega))) rfl ?_
      refine WR.op rfl rfl rfl rfl ?_
      refine WR.nil ?_
      refine after.seq ?_
      refine WK.cond rfl (fun h => (by cases h)) (fun _ => ?_)
      refine WK.skip ?_
      refine after.seq ?_
      refine WK.seq ?_
      refine WK.region ?_
      refine WR.call (f := 19) («as» := [.nils]) rfl (.inl rfl) rfl rfl rfl rfl ((new_ok (XA_dom 14) c19 hG hN).mono ?_)
      rintro v1 st1 ⟨rfl, hr1, k1⟩
      have hx2 : Ext st1 (st1.push o4) := (Ext.refl st1).push _
      obtain ⟨mm, off, hia, hla⟩ := (o4_els st1).at (n := k) un31 sz9 hk4
      have hget : (L4.map txC)[k]? = some (txC nm) := by rw [List.getElem?_map, hnm]; rfl
      refine WR.op rfl rfl rfl rfl ?_
      refine WR.nil ?_
      refine after.seq ?_
      refine WK.seq ?_
      refine WK.seq ?_
      refine WK.region ?_
      refine WR.op rfl rfl rfl rfl ?_
      refine WR.op rfl rfl rfl rfl ?_
      refine WR.nil ?_
      refine after.seq ?_
      refine WK.cond rfl (fun h => (by cases h)) (fun _ => ?_)
      refine WK.skip ?_
      refine after.seq ?_
      refine WK.seq ?_
      refine WK.region ?_
      refine WR.op rfl rfl (r_lit4 rfl rfl rfl rfl) rfl ?_
      refine WR.op rfl rfl rfl rfl ?_
      refine WR.call (f := 22) («as» := [.int .i64 style, .int .i64 4]) rfl (.inl rfl) rfl rfl rfl rfl ((round_ok hs22 (by decide) (by decide) (st1.push o4)).mono ?_)
      rintro v2 _ ⟨rfl, rfl⟩
      rw [hk]
      refine WR.op rfl rfl (hia rfl rfl) rfl ?_
      refine WR.op rfl rfl ((hla _ hget rfl _ _ _ rfl).1 agg9 _ rfl) rfl ?_
      refine WR.op rfl rfl rfl rfl ?_
      refine WR.nil ?_
      refine after.seq ?_
      refine WK.seq ?_
      refine WK.region ?_
      refine WR.op rfl rfl rfl rfl ?_
      refine WR.nil ?_
      refine after.seq ?_
      refine WK.seq ?_
      refine WK.region ?_
      refine WR.op rfl rfl rfl rfl ?_
      refine WR.op rfl rfl rfl rfl ?_
      refine WR.call (f := 23) («as» := [.ptr (st.next + 1) 0, .str nm, .int .i64 0]) rfl (.inl rfl) rfl rfl rfl rfl ((hT (hr1.ext hx2) 0 (by decide) (by decide)).mono ?_)
      rintro v3 st3 ⟨rfl, k3'⟩
      have hx1 : Ext st1 st3 := hx2.trans k3'
      have k3 := hx1
      refine WR.op rfl rfl rfl rfl ?_
      refine WR.op rfl rfl rfl rfl ?_
      refine WR.nil ?_
      refine after.seq ?_
      refine WK.seq ?_
      refine WK.seq ?_
      refine WK.region ?_
      refine WR.op rfl rfl rfl rfl ?_
      refine WR.nil ?_
      refine after.seq ?_
      refine WK.block ?_
      refine cnt_loop (tx := tx) (sep := sep) (nm := nm) (stA0 := st) hs22 hsp (fun n h0 h1 => (htx1 n h0 h1).2) (k1.trans k3) hln hE hlen (fun n h0 h1 st' hx => hT (hr1.ext (hx1.trans hx)) n h0 h1) l [] rfl .nils 0 _ (.inl ⟨rfl, rfl⟩) (Ext.refl st3) (.inl rfl) _ rfl rfl rfl rfl rfl rfl rfl rfl fun env4 st4 y4 f4 g0 g1 g7 g8 g9 g10 g11 hrow hx4 => ?_
      have hEl := hrow.els
      have hyp := row_plain hrow
      have hr4 := hr1.ext (hx1.trans hx4)
      have hxa := k1.trans (k3.trans hx4)
      refine after.seq ?_
      refine WK.sub [(0, x), (1, .str sep), (7, .ptr (st.next + 1) 0), (8, .str nm), (9, y4), (10, .str (joinS sep ((l.map (· % 50)).map tx))), (11, .str (tx ((l.map (· % 50)).getLastD 0)))] ?_ ?_
      · intro t v ht
        simp only [lookE_cons] at ht
        by_cases e0 : t = 0
        · rw [if_pos e0] at ht; subst e0; rw [g0]; exact ht
        rw [if_neg e0] at ht
        by_cases e1 : t = 1
        · rw [if_pos e1] at ht; subst e1; rw [g1]; exact ht
        rw [if_neg e1] at ht
        by_cases e7 : t = 7
        · rw [if_pos e7] at ht; subst e7; rw [g7]; exact ht
        rw [if_neg e7] at ht
        by_cases e8 : t = 8
        · rw [if_pos e8] at ht; subst e8; rw [g8]; exact ht
        rw [if_neg e8] at ht
        by_cases e9 : t = 9
        · rw [if_pos e9] at ht; subst e9; rw [g9]; exact ht
        rw [if_neg e9] at ht
        by_cases e10 : t = 10
        · rw [if_pos e10] at ht; subst e10; rw [g10]; exact ht
        rw [if_neg e10] at ht
        by_cases e11 : t = 11
        · rw [if_pos e11] at ht; subst e11; rw [g11]; exact ht
        rw [if_neg e11] at ht
        cases ht
      refine WK.seq ?_
      refine WK.seq ?_
      refine WK.region ?_
      refine WR.op rfl rfl rfl rfl ?_
      refine WR.op rfl rfl (hln rfl) rfl ?_
      refine WR.op rfl rfl (r_eql rfl rfl (q := true) (by rw [hl]; rfl)) rfl ?_
      refine WR.nil ?_
      refine after.seq ?_
      refine WK.cond rfl (fun _ => ?_) (fun h => (by cases h))
      refine WK.region ?_
      refine WR.op rfl rfl rfl rfl ?_
      refine WR.op rfl rfl rfl rfl ?_
      refine WR.nil ?_
      refine after.seq ?_
      refine WK.seq ?_
      refine WK.seq ?_
      refine WK.region ?_
      refine WR.op rfl rfl rfl rfl ?_
      refine WR.op rfl rfl (r_seql rfl rfl hno) rfl ?_
      refine WR.nil ?_
      refine after.seq ?_
      refine WK.cond rfl (fun _ => ?_) (fun h => (by cases h))
      refine WK.region ?_
      refine WR.op rfl rfl rfl rfl ?_
      refine WR.op rfl rfl rfl rfl ?_
      refine WR.nil ?_
      refine after.seq ?_
      refine WK.seq ?_
      refine WK.region ?_
      refine WR.op rfl rfl rfl rfl ?_
      refine WR.op rfl rfl rfl rfl ?_
      refine WR.op rfl rfl rfl rfl ?_
      refine WR.op rfl rfl (r_b60a rfl rfl rfl) rfl ?_
      refine WR.call (f := 24) («as» := [.ptr (st.next + 1) 0, y4, itemV 3 nN [] nm]) rfl (.inl rfl) rfl rfl rfl rfl (CallW.mono (K := fun v st' => v = .str [] ∧ Ext st4 st') (by rw [hnn]; exact one_none3 (cs_cnt 24 (by decide)) _ _ _ _ _) ?_)
      rintro v5 st5 ⟨rfl, k5⟩
      refine WR.op rfl rfl rfl rfl ?_
      refine WR.op rfl rfl (r_seql rfl rfl (q := true) rfl) rfl ?_
      refine WR.op rfl rfl rfl rfl ?_
      refine WR.opG rfl rfl rfl rfl rfl ?_
      refine WR.opG rfl rfl rfl rfl rfl ?_
      refine WR.opG rfl rfl rfl rfl rfl ?_
      refine WR.opG rfl rfl rfl rfl rfl ?_
      refine WR.opG rfl rfl rfl (r_b60b rfl rfl rfl rfl) rfl ?_
      refine WR.call (f := 24) («as» := [.ptr (st.next + 1) 0, y4, itemV 4 nN sep nm]) rfl (.inr ⟨_, _, rfl, rfl⟩) rfl rfl rfl rfl (CallW.mono (K := fun v st' => v = .str [] ∧ Ext st5 st') (by rw [hnn]; exact one_none4 (cs_cnt 24 (by decide)) _ _ _ _ _) ?_)
      rintro v6 st6 ⟨rfl, k6⟩
      refine WR.opG rfl rfl rfl rfl rfl ?_
      refine WR.opG rfl rfl rfl (r_seql rfl rfl (q := true) rfl) rfl ?_
      refine WR.op rfl rfl rfl rfl ?_
      refine WR.op rfl rfl rfl rfl ?_
      refine WR.opG rfl rfl rfl rfl rfl ?_
      refine WR.opG rfl rfl rfl rfl rfl ?_
      refine WR.opG rfl rfl rfl rfl rfl ?_
      refine WR.opG rfl rfl rfl (r_b60a rfl rfl rfl) rfl ?_
      refine WR.call (f := 24) («as» := [.ptr (st.next + 1) 0, y4, itemV 1 sep [] noneT]) rfl (.inr ⟨_, _, rfl, rfl⟩) rfl rfl rfl rfl ((one_words (cs_cnt 24 (by decide)) _ _ _ _ _ _).mono ?_)
      rintro v7 st7 ⟨rfl, k7⟩
      refine WR.opG rfl rfl rfl rfl rfl ?_
      refine WR.opG rfl rfl rfl (r_seql rfl rfl (eqL_same _)) rfl ?_
      refine WR.op rfl rfl rfl rfl ?_
      refine WR.op rfl rfl rfl rfl ?_
      refine WR.opG rfl rfl rfl rfl rfl ?_
      refine WR.opG rfl rfl rfl rfl rfl ?_
      refine WR.opG rfl rfl rfl (r_b60c rfl) rfl ?_
      refine WR.call (f := 24) («as» := [.ptr (st.next + 1) 0, y4, itemV 5 [] [] []]) rfl (.inr ⟨_, _, rfl, rfl⟩) rfl rfl rfl rfl ((one_open (cs_cnt 24 (by decide)) _ _ _ _ _ _).mono ?_)
      rintro v8 st8 ⟨rfl, k8⟩
      refine WR.opG rfl rfl rfl (r_seql rfl rfl (q := true) rfl) rfl ?_
      refine WR.op rfl rfl rfl rfl ?_
      refine WR.op rfl rfl rfl rfl ?_
      refine WR.call (f := 14) («as» := []) rfl (.inr ⟨_, _, rfl, rfl⟩) rfl rfl rfl rfl ((aw_ok (by decide) (hK ((((hxa.trans k5).trans k6).trans k7).trans k8))).mono ?_)
      rintro va _ ⟨rfl, rfl⟩
      refine WR.op rfl rfl rfl rfl ?_
      refine WR.op rfl rfl rfl rfl ?_
      refine WR.nil ?_
      refine after.seq ?_
      refine WK.ret ?_
      exact ⟨ret_ne 0, ret_ne, [.bool true], (by rw [res5]; rfl), rfl⟩
    · have hl1 : 1 ≤ l.length := by
        cases l with
        | nil => exact absurd rfl hl
        | cons a q => simp
      refine CallW.enter (cs_cnt 5 (by decide) _ _) Tryz.func5 body5 c5_of rfl ?_
      rw [nt5]
      unfold c5
      refine WK.seq ?_
      refine WK.region ?_
      refine WR.op rfl rfl rfl rfl ?_
      refine WR.nil ?_
      refine after.seq ?_
      refine WK.seq ?_
      refine WK.seq ?_
      refine WK.region ?_
      refine WR.op rfl rfl rfl rfl ?_
      refine WR.op rfl rfl (hln rfl) rfl ?_
      refine WR.op rfl rfl (r_gtr rfl rfl (iltb_F (by omega))) rfl ?_
      refine WR.op rfl rfl rfl rfl ?_
      refine WR.opG rfl rfl rfl rfl rfl ?_
      refine WR.opG rfl rfl rfl (r_len_str un9 rfl) rfl ?_
      refine WR.opG rfl rfl rfl (r_gtr rfl rfl (iltb_F (by omega))) rfl ?_
      refine WR.op rfl rfl rfl rfl ?_
      refine WR.nil ?_
      refine after.seq ?_
      refine WK.cond rfl (fun h => (by cases h)) (fun _ => ?_)
      refine WK.skip ?_
      refine after.seq ?_
      refine WK.seq ?_
      refine WK.region ?_
      refine WR.call (f := 19) («as» := [.nils]) rfl (.inl rfl) rfl rfl rfl rfl ((new_ok (XA_dom 14) c19 hG hN).mono ?_)
      rintro v1 st1 ⟨rfl, hr1, k1⟩
      have hx2 : Ext st1 (st1.push o4) := (Ext.refl st1).push _
      obtain ⟨mm, off, hia, hla⟩ := (o4_els st1).at (n := k) un31 sz9 hk4
      have hget : (L4.map txC)[k]? = some (txC nm) := by rw [List.getElem?_map, hnm]; rfl
      refine WR.op rfl rfl rfl rfl ?_
      refine WR.nil ?_
      refine after.seq ?_
      refine WK.seq ?_
      refine WK.seq ?_
      refine WK.region ?_
      refine WR.op rfl rfl rfl rfl ?_
      refine WR.op rfl rfl rfl rfl ?_
      refine WR.nil ?_
      refine after.seq ?_
      refine WK.cond rfl (fun h => (by cases h)) (fun _ => ?_)
      refine WK.skip ?_
      refine after.seq ?_
      refine WK.seq ?_
      refine WK.region ?_
      refine WR.op rfl rfl (r_lit4 rfl rfl rfl rfl) rfl ?_
      refine WR.op rfl rfl rfl rfl ?_
      refine WR.call (f := 22) («as» := [.int .i64 style, .int .i64 4]) rfl (.inl rfl) rfl rfl rfl rfl ((round_ok hs22 (by decide) (by decide) (st1.push o4)).mono ?_)
      rintro v2 _ ⟨rfl, rfl⟩
      rw [hk]
      refine WR.op rfl rfl (hia rfl rfl) rfl ?_
      refine WR.op rfl rfl ((hla _ hget rfl _ _ _ rfl).1 agg9 _ rfl) rfl ?_
      refine WR.op rfl rfl rfl rfl ?_
      refine WR.nil ?_
      refine after.seq ?_
      refine WK.seq ?_
      refine WK.region ?_
      refine WR.op rfl rfl rfl rfl ?_
      refine WR.nil ?_
      refine after.seq ?_
      refine WK.seq ?_
      refine WK.region ?_
      refine WR.op rfl rfl rfl rfl ?_
      refine WR.op rfl rfl rfl rfl ?_
      refine WR.call (f := 23) («as» := [.ptr (st.next + 1) 0, .str nm, .int .i64 0]) rfl (.inl rfl) rfl rfl rfl rfl ((hT (hr1.ext hx2) 0 (by decide) (by decide)).mono ?_)
      rintro v3 st3 ⟨rfl, k3'⟩
      have hx1 : Ext st1 st3 := hx2.trans k3'
      have k3 := hx1
      refine WR.op rfl rfl rfl rfl ?_
      refine WR.op rfl rfl rfl rfl ?_
      refine WR.nil ?_
      refine after.seq ?_
      refine WK.seq ?_
      refine WK.seq ?_
      refine WK.region ?_
      refine WR.op rfl rfl rfl rfl ?_
      refine WR.nil ?_
      refine after.seq ?_
      refine WK.block ?_
      refine cnt_loop (tx := tx) (sep := sep) (nm := nm) (stA0 := st) hs22 hsp (fun n h0 h1 => (htx1 n h0 h1).2) (k1.trans k3) hln hE hlen (fun n h0 h1 st' hx => hT (hr1.ext (hx1.trans hx)) n h0 h1) l [] rfl .nils 0 _ (.inl ⟨rfl, rfl⟩) (Ext.refl st3) (.inl rfl) _ rfl rfl rfl rfl rfl rfl rfl rfl fun env4 st4 y4 f4 g0 g1 g7 g8 g9 g10 g11 hrow hx4 => ?_
      have hEl := hrow.els
      have hyp := row_plain hrow
      have hr4 := hr1.ext (hx1.trans hx4)
      have hxa := k1.trans (k3.trans hx4)
      refine after.seq ?_
      refine WK.sub [(0, x), (1, .str sep), (7, .ptr (st.next + 1) 0), (8, .str nm), (9, y4), (10, .str (joinS sep ((l.map (· % 50)).map tx))), (11, .str (tx ((l.map (· % 50)).getLastD 0)))] ?_ ?_
      · intro t v ht
        simp only [lookE_cons] at ht
        by_cases e0 : t = 0
        · rw [if_pos e0] at ht; subst e0; rw [g0]; exact ht
        rw [if_neg e0] at ht
        by_cases e1 : t = 1
        · rw [if_pos e1] at ht; subst e1; rw [g1]; exact ht
        rw [if_neg e1] at ht
        by_cases e7 : t = 7
        · rw [if_pos e7] at ht; subst e7; rw [g7]; exact ht
        rw [if_neg e7] at ht
        by_cases e8 : t = 8
        · rw [if_pos e8] at ht; subst e8; rw [g8]; exact ht
        rw [if_neg e8] at ht
        by_cases e9 : t = 9
        · rw [if_pos e9] at ht; subst e9; rw [g9]; exact ht
        rw [if_neg e9] at ht
        by_cases e10 : t = 10
        · rw [if_pos e10] at ht; subst e10; rw [g10]; exact ht
        rw [if_neg e10] at ht
        by_cases e11 : t = 11
        · rw [if_pos e11] at ht; subst e11; rw [g11]; exact ht
        rw [if_neg e11] at ht
        cases ht
      refine WK.seq ?_
      refine WK.seq ?_
      refine WK.region ?_
      refine WR.op rfl rfl rfl rfl ?_
      refine WR.op rfl rfl (hln rfl) rfl ?_
      refine WR.op rfl rfl (r_eql rfl rfl (ieqb_F (by omega))) rfl ?_
      refine WR.nil ?_
      refine after.seq ?_
      refine WK.cond rfl (fun h => (by cases h)) (fun _ => ?_)
      refine WK.skip ?_
      refine after.seq ?_
      refine WK.seq ?_
      refine WK.seq ?_
      refine WK.region ?_
      refine WR.op rfl rfl rfl rfl ?_
      refine WR.op rfl rfl (r_seql rfl rfl hno) rfl ?_
      refine WR.nil ?_
      refine after.seq ?_
      refine WK.cond rfl (fun _ => ?_) (fun h => (by cases h))
      refine WK.region ?_
      refine WR.op rfl rfl rfl rfl ?_
      refine WR.op rfl rfl rfl rfl ?_
      refine WR.nil ?_
      refine after.seq ?_
      refine WK.seq ?_
      refine WK.region ?_
      refine WR.op rfl rfl rfl rfl ?_
      refine WR.op rfl rfl rfl rfl ?_
      refine WR.op rfl rfl rfl rfl ?_
      refine WR.op rfl rfl (r_b60a rfl rfl rfl) rfl ?_
      refine WR.call (f := 24) («as» := [.ptr (st.next + 1) 0, y4, itemV 3 nN [] nm]) rfl (.inl rfl) rfl rfl rfl rfl (CallW.mono (K := fun v st' => v = .str [] ∧ Ext st4 st') (by rw [hnn]; exact one_none3 (cs_cnt 24 (by decide)) _ _ _ _ _) ?_)
      rintro v5 st5 ⟨rfl, k5⟩
      refine WR.op rfl rfl rfl rfl ?_
      refine WR.op rfl rfl (r_seql rfl rfl (q := true) rfl) rfl ?_
      refine WR.op rfl rfl rfl rfl ?_
      refine WR.opG rfl rfl rfl rfl rfl ?_
      refine WR.opG rfl rfl rfl rfl rfl ?_
      refine WR.opG rfl rfl rfl rfl rfl ?_
      refine WR.opG rfl rfl rfl rfl rfl ?_
      refine WR.opG rfl rfl rfl (r_b60b rfl rfl rfl rfl) rfl ?_
      refine WR.call (f := 24) («as» := [.ptr (st.next + 1) 0, y4, itemV 4 nN sep nm]) rfl (.inr ⟨_, _, rfl, rfl⟩) rfl rfl rfl rfl (CallW.mono (K := fun v st' => v = .str [] ∧ Ext st5 st') (by rw [hnn]; exact one_none4 (cs_cnt 24 (by decide)) _ _ _ _ _) ?_)
      rintro v6 st6 ⟨rfl, k6⟩
      refine WR.opG rfl rfl rfl rfl rfl ?_
      refine WR.opG rfl rfl rfl (r_seql rfl rfl (q := true) rfl) rfl ?_
      refine WR.op rfl rfl rfl rfl ?_
      refine WR.op rfl rfl rfl rfl ?_
      refine WR.opG rfl rfl rfl rfl rfl ?_
      refine WR.opG rfl rfl rfl rfl rfl ?_
      refine WR.opG rfl rfl rfl rfl rfl ?_
      refine WR.opG rfl rfl rfl (r_b60a rfl rfl rfl) rfl ?_
      refine WR.call (f := 24) («as» := [.ptr (st.next + 1) 0, y4, itemV 1 sep [] noneT]) rfl (.inr ⟨_, _, rfl, rfl⟩) rfl rfl rfl rfl ((one_words (cs_cnt 24 (by decide)) _ _ _ _ _ _).mono ?_)
      rintro v7 st7 ⟨rfl, k7⟩
      refine WR.opG rfl rfl rfl rfl rfl ?_
      refine WR.opG rfl rfl rfl (r_seql rfl rfl (eqL_same _)) rfl ?_
      refine WR.op rfl rfl rfl rfl ?_
      refine WR.op rfl rfl rfl rfl ?_
      refine WR.opG rfl rfl rfl rfl rfl ?_
      refine WR.opG rfl rfl rfl rfl rfl ?_
      refine WR.opG rfl rfl rfl (r_b60c rfl) rfl ?_
      refine WR.call (f := 24) («as» := [.ptr (st.next + 1) 0, y4, itemV 5 [] [] []]) rfl (.inr ⟨_, _, rfl, rfl⟩) rfl rfl rfl rfl ((one_open (cs_cnt 24 (by decide)) _ _ _ _ _ _).mono ?_)
      rintro v8 st8 ⟨rfl, k8⟩
      refine WR.opG rfl rfl rfl (r_seql rfl rfl (q := true) rfl) rfl ?_
      refine WR.op rfl rfl rfl rfl ?_
      refine WR.op rfl rfl rfl rfl ?_
      refine WR.call (f := 14) («as» := []) rfl (.inr ⟨_, _, rfl, rfl⟩) rfl rfl rfl rfl ((aw_ok (by decide) (hK ((((hxa.trans k5).trans k6).trans k7).trans k8))).mono ?_)
      rintro va _ ⟨rfl, rfl⟩
      refine WR.op rfl rfl rfl rfl ?_
      refine WR.op rfl rfl rfl rfl ?_
      refine WR.nil ?_
      refine after.seq ?_
      refine WK.ret ?_
      exact ⟨ret_ne 0, ret_ne, [.bool true], (by rw [res5]; rfl), rfl⟩
  | false =>
    by_cases hl : l = []
    · refine CallW.enter (cs_cnt 5 (by decide) _ _) Tryz.func5 body5 c5_of rfl ?_
      rw [nt5]
      unfold c5
      refine WK.seq ?_
      refine WK.region ?_
      refine WR.op rfl rfl rfl rfl ?_
      refine WR.nil ?_
      refine after.seq ?_
      refine WK.seq ?_
      refine WK.seq ?_
      refine WK.region ?_
      refine WR.op rfl rfl rfl rfl ?_
      refine WR.op rfl rfl (hln rfl) rfl ?_
      refine WR.op rfl rfl (r_gtr rfl rfl (iltb_F (by omega))) rfl ?_
      refine WR.op rfl rfl rfl rfl ?_
      refine WR.opG rfl rfl rfl rfl rfl ?_
      refine WR.opG rfl rfl rfl (r_len_str un9 rfl) rfl ?_
      refine WR.opG rfl rfl rfl (r_gtr rfl rfl (iltb_F (by omega))) rfl ?_
      refine WR.op rfl rfl rfl rfl ?_
      refine WR.nil ?_
      refine after.seq ?_
      refine WK.cond rfl (fun h => (by cases h)) (fun _ => ?_)
      refine WK.skip ?_
      refine after.seq ?_
      refine WK.seq ?_
      refine WK.region ?_
      refine WR.call (f := 19) («as» := [.nils]) rfl (.inl rfl) rfl rfl rfl rfl ((new_ok (XA_dom 14) c19 hG hN).mono ?_)
      rintro v1 st1 ⟨rfl, hr1, k1⟩
      have hx2 : Ext st1 (st1.push o4) := (Ext.refl st1).push _
      obtain ⟨mm, off, hia, hla⟩ := (o4_els st1).at (n := k) un31 sz9 hk4
      have hget : (L4.map txC)[k]? = some (txC nm) := by rw [List.getElem?_map, hnm]; rfl
      refine WR.op rfl rfl rfl rfl ?_
      refine WR.nil ?_
      refine after.seq ?_
      refine WK.seq ?_
      refine WK.seq ?_
      refine WK.region ?_
      refine WR.op rfl rfl rfl rfl ?_
      refine WR.op rfl rfl rfl rfl ?_
      refine WR.nil ?_
      refine after.seq ?_
      refine WK.cond rfl (fun h => (by cases h)) (fun _ => ?_)
      refine WK.skip ?_
      refine after.seq ?_
      refine WK.seq ?_
      refine WK.region ?_
      refine WR.op rfl rfl (r_lit4 rfl rfl rfl rfl) rfl ?_
      refine WR.op rfl rfl rfl rfl ?_
      refine WR.call (f := 22) («as» := [.int .i64 style, .int .i64 4]) rfl (.inl rfl) rfl rfl rfl rfl ((round_ok hs22 (by decide) (by decide) (st1.push o4)).mono ?_)
      rintro v2 _ ⟨rfl, rfl⟩
      rw [hk]
      refine WR.op rfl rfl (hia rfl rfl) rfl ?_
      refine WR.op rfl rfl ((hla _ hget rfl _ _ _ rfl).1 agg9 _ rfl) rfl ?_
      refine WR.op rfl rfl rfl rfl ?_
      refine WR.nil ?_
      refine after.seq ?_
      refine WK.seq ?_
      refine WK.region ?_
      refine WR.op rfl rfl rfl rfl ?_
      refine WR.nil ?_
      refine after.seq ?_
      refine WK.seq ?_
      refine WK.region ?_
      refine WR.op rfl rfl rfl rfl ?_
      refine WR.op rfl rfl rfl rfl ?_
      refine WR.call (f := 23) («as» := [.ptr (st.next + 1) 0, .str nm, .int .i64 0]) rfl (.inl rfl) rfl rfl rfl rfl ((hT (hr1.ext hx2) 0 (by decide) (by decide)).mono ?_)
      rintro v3 st3 ⟨rfl, k3'⟩
      have hx1 : Ext st1 st3 := hx2.trans k3'
      have k3 := hx1
      refine WR.op rfl rfl rfl rfl ?_
      refine WR.op rfl rfl rfl rfl ?_
      refine WR.nil ?_
      refine after.seq ?_
      refine WK.seq ?_
      refine WK.seq ?_
      refine WK.region ?_
      refine WR.op rfl rfl rfl rfl ?_
      refine WR.nil ?_
      refine after.seq ?_
      refine WK.block ?_
      refine cnt_loop (tx := tx) (sep := sep) (nm := nm) (stA0 := st) hs22 hsp (fun n h0 h1 => (htx1 n h0 h1).2) (k1.trans k3) hln hE hlen (fun n h0 h1 st' hx => hT (hr1.ext (hx1.trans hx)) n h0 h1) l [] rfl .nils 0 _ (.inl ⟨rfl, rfl⟩) (Ext.refl st3) (.inl rfl) _ rfl rfl rfl rfl rfl rfl rfl rfl fun env4 st4 y4 f4 g0 g1 g7 g8 g9 g10 g11 hrow hx4 => ?_
      have hEl := hrow.els
      have hyp := row_plain hrow
      have hr4 := hr1.ext (hx1.trans hx4)
      have hxa := k1.trans (k3.trans hx4)
      refine after.seq ?_
      refine WK.sub [(0, x), (1, .str sep), (7, .ptr (st.next + 1) 0), (8, .str nm), (9, y4), (10, .str (joinS sep ((l.map (· % 50)).map tx))), (11, .str (tx ((l.map (· % 50)).getLastD 0)))] ?_ ?_
      · intro t v ht
        simp only [lookE_cons] at ht
        by_cases e0 : t = 0
        · rw [if_pos e0] at ht; subst e0; rw [g0]; exact ht
        rw [if_neg e0] at ht
        by_cases e1 : t = 1
        · rw [if_pos e1] at ht; subst e1; rw [g1]; exact ht
        rw [if_neg e1] at ht
        by_cases e7 : t = 7
        · rw [if_pos e7] at ht; subst e7; rw [g7]; exact ht
        rw [if_neg e7] at ht
        by_cases e8 : t = 8
        · rw [if_pos e8] at ht; subst e8; rw [g8]; exact ht
        rw [if_neg e8] at ht
        by_cases e9 : t = 9
        · rw [if_pos e9] at ht; subst e9; rw [g9]; exact ht
        rw [if_neg e9] at ht
        by_cases e10 : t = 10
        · rw [if_pos e10] at ht; subst e10; rw [g10]; exact ht
        rw [if_neg e10] at ht
        by_cases e11 : t = 11
        · rw [if_pos e11] at ht; subst e11; rw [g11]; exact ht
        rw [if_neg e11] at ht
        cases ht
      refine WK.seq ?_
      refine WK.seq ?_
      refine WK.region ?_
      refine WR.op rfl rfl rfl rfl ?_
      refine WR.op rfl rfl (hln rfl) rfl ?_
      refine WR.op rfl rfl (r_eql rfl rfl (q := true) (by rw [hl]; rfl)) rfl ?_
      refine WR.nil ?_
      refine after.seq ?_
      refine WK.cond rfl (fun _ => ?_) (fun h => (by cases h))
      refine WK.region ?_
      refine WR.op rfl rfl rfl rfl ?_
      refine WR.op rfl rfl rfl rfl ?_
      refine WR.nil ?_
      refine after.seq ?_
      refine WK.seq ?_
      refine WK.seq ?_
      refine WK.region ?_
      refine WR.op rfl rfl rfl rfl ?_
      refine WR.op rfl rfl (r_seql rfl rfl hno) rfl ?_
      refine WR.nil ?_
      refine after.seq ?_
      refine WK.cond rfl (fun h => (by cases h)) (fun _ => ?_)
      refine WK.skip ?_
      refine after.seq ?_
      refine WK.seq ?_
      refine WK.region ?_
      refine WR.op rfl rfl rfl rfl ?_
      refine WR.op rfl rfl rfl rfl ?_
      refine WR.op rfl rfl rfl rfl ?_
      refine WR.op rfl rfl (r_b60a rfl rfl rfl) rfl ?_
      refine WR.call (f := 24) («as» := [.ptr (st.next + 1) 0, y4, itemV 3 nN [] nm]) rfl (.inl rfl) rfl rfl rfl rfl ((one_counter (u := tx ((l.map (· % 50)).getLastD 0)) (fun f hf => cs_cnt f (by revert f; decide)) [] (by omega) hEl hyp.1 hyp.2 hno (fun st' hx => by rw [hv1]; exact hT (hr4.ext hx) _ hv4.1 hv4.2)).mono ?_)
      rintro v5 st5 ⟨rfl, k5⟩
      refine WR.op rfl rfl rfl rfl ?_
      refine WR.op rfl rfl (r_seql rfl rfl (eqL_same _)) rfl ?_
      refine WR.op rfl rfl rfl rfl ?_
      refine WR.opG rfl rfl rfl rfl rfl ?_
      refine WR.opG rfl rfl rfl rfl rfl ?_
      refine WR.opG rfl rfl rfl rfl rfl ?_
      refine WR.opG rfl rfl rfl rfl rfl ?_
      refine WR.opG rfl rfl rfl (r_b60b rfl rfl rfl rfl) rfl ?_
      refine WR.call (f := 24) («as» := [.ptr (st.next + 1) 0, y4, itemV 4 nN sep nm]) rfl (.inr ⟨_, _, rfl, rfl⟩) rfl rfl rfl rfl ((one_counters (tx := tx) (cs := ctrsI 0 (l.map (· % 50))) (fun f hf => cs_cnt f (by revert f; decide)) (by omega) (by omega) (hEl.ext k5) hyp.1 hyp.2 hno (by rw [hv2]; omega) (fun n hn => by rw [hv2] at hn; exact htx1 n (hv3 n hn).1 (hv3 n hn).2) (fun n hn st' hx => by
        rw [hv2] at hn
        rcases hn with rfl | hn
        · exact hT (hr4.ext (k5.trans hx)) 0 (by decide) (by decide)
        · exact hT (hr4.ext (k5.trans hx)) n (hv3 n hn).1 (hv3 n hn).2)).mono ?_)
      rw [hv2]
      rintro v6 st6 ⟨rfl, k6⟩
      refine WR.opG rfl rfl rfl rfl rfl ?_
      refine WR.opG rfl rfl rfl (r_seql rfl rfl (q := true) (by rw [hl]; exact eqL_same _)) rfl ?_
      refine WR.op rfl rfl rfl rfl ?_
      refine WR.op rfl rfl rfl rfl ?_
      refine WR.opG rfl rfl rfl rfl rfl ?_
      refine WR.opG rfl rfl rfl rfl rfl ?_
      refine WR.opG rfl rfl rfl rfl rfl ?_
      refine WR.opG rfl rfl rfl (r_b60a rfl rfl rfl) rfl ?_
      refine WR.call (f := 24) («as» := [.ptr (st.next + 1) 0, y4, itemV 1 sep [] noneT]) rfl (.inr ⟨_, _, rfl, rfl⟩) rfl rfl rfl rfl ((one_words (cs_cnt 24 (by decide)) _ _ _ _ _ _).mono ?_)
      rintro v7 st7 ⟨rfl, k7⟩
      refine WR.opG rfl rfl rfl rfl rfl ?_
      refine WR.opG rfl rfl rfl (r_seql rfl rfl (eqL_same _)) rfl ?_
      refine WR.op rfl rfl rfl rfl ?_
      refine WR.op rfl rfl rfl rfl ?_
      refine WR.opG rfl rfl rfl rfl rfl ?_
      refine WR.opG rfl rfl rfl rfl rfl ?_
      refine WR.opG rfl rfl rfl (r_b60c rfl) rfl ?_
      refine WR.call (f := 24) («as» := [.ptr (st.next + 1) 0, y4, itemV 5 [] [] []]) rfl (.inr ⟨_, _, rfl, rfl⟩) rfl rfl rfl rfl ((one_open (cs_cnt 24 (by decide)) _ _ _ _ _ _).mono ?_)
      rintro v8 st8 ⟨rfl, k8⟩
      refine WR.opG rfl rfl rfl (r_seql rfl rfl (q := true) rfl) rfl ?_
      refine WR.op rfl rfl rfl rfl ?_
      refine WR.op rfl rfl rfl rfl ?_
      refine WR.call (f := 14) («as» := []) rfl (.inr ⟨_, _, rfl, rfl⟩) rfl rfl rfl rfl ((aw_ok (by decide) (hK ((((hxa.trans k5).trans k6).trans k7).trans k8))).mono ?_)
      rintro va _ ⟨rfl, rfl⟩
      refine WR.op rfl rfl rfl rfl ?_
      refine WR.op rfl rfl rfl rfl ?_
      refine WR.nil ?_
      refine after.seq ?_
      refine WK.ret ?_
      exact ⟨ret_ne 0, ret_ne, [.bool true], (by rw [res5]; rfl), rfl⟩
    · have hl1 : 1 ≤ l.length := by
        cases l with
        | nil => exact absurd rfl hl
        | cons a q => simp
      have hall : eqL (allT tx sep (l.map (· % 50))) (joinS sep ((l.map (· % 50)).map tx)) = true := by
        cases hc : l.map (· % 50) with
        | nil =>
          rw [hc] at hlm
          simp at hlm
          omega
        | cons a q => exact eqL_same _
      refine CallW.enter (cs_cnt 5 (by decide) _ _) Tryz.func5 body5 c5_of rfl ?_
      rw [nt5]
      unfold c5
      refine WK.seq ?_
      refine WK.region ?_
      refine WR.op rfl rfl rfl rfl ?_
      refine WR.nil ?_
      refine after.seq ?_
      refine WK.seq ?_
      refine WK.seq ?_
      refine WK.region ?_
      refine WR.op rfl rfl rfl rfl ?_
      refine WR.op rfl rfl (hln rfl) rfl ?_
      refine WR.op rfl rfl (r_gtr rfl rfl (iltb_F (by omega))) rfl ?_
      refine WR.op rfl rfl rfl rfl ?_
      refine WR.opG rfl rfl rfl rfl rfl ?_
      refine WR.opG rfl rfl rfl (r_len_str un9 rfl) rfl ?_
      refine WR.opG rfl rfl rfl (r_gtr rfl rfl (iltb_F (by omega))) rfl ?_
      refine WR.op rfl rfl rfl rfl ?_
      refine WR.nil ?_
      refine after.seq ?_
      refine WK.cond rfl (fun h => (by cases h)) (fun _ => ?_)
      refine WK.skip ?_
      refine after.seq ?_
      refine WK.seq ?_
      refine WK.region ?_
      refine WR.call (f := 19) («as» := [.nils]) rfl (.inl rfl) rfl rfl rfl rfl ((new_ok (XA_dom 14) c19 hG hN).mono ?_)
      rintro v1 st1 ⟨rfl, hr1, k1⟩
      have hx2 : Ext st1 (st1.push o4) := (Ext.refl st1).push _
      obtain ⟨mm, off, hia, hla⟩ := (o4_els st1).at (n := k) un31 sz9 hk4
      have hget : (L4.map txC)[k]? = some (txC nm) := by rw [List.getElem?_map, hnm]; rfl
      refine WR.op rfl rfl rfl rfl ?_
      refine WR.nil ?_
      refine after.seq ?_
      refine WK.seq ?_
      refine WK.seq ?_
      refine WK.region ?_
      refine WR.op rfl rfl rfl rfl ?_
      refine WR.op rfl rfl rfl rfl ?_
      refine WR.nil ?_
      refine after.seq ?_
      refine WK.cond rfl (fun h => (by cases h)) (fun _ => ?_)
      refine WK.skip ?_
      refine after.seq ?_
      refine WK.seq ?_
      refine WK.region ?_
      refine WR.op rfl rfl (r_lit4 rfl rfl rfl rfl) rfl ?_
      refine WR.op rfl rfl rfl rfl ?_
      refine WR.call (f := 22) («as» := [.int .i64 style, .int .i64 4]) rfl (.inl rfl) rfl rfl rfl rfl ((round_ok hs22 (by decide) (by decide) (st1.push o4)).mono ?_)
      rintro v2 _ ⟨rfl, rfl⟩
      rw [hk]
      refine WR.op rfl rfl (hia rfl rfl) rfl ?_
      refine WR.op rfl rfl ((hla _ hget rfl _ _ _ rfl).1 agg9 _ rfl) rfl ?_
      refine WR.op rfl rfl rfl rfl ?_
      refine WR.nil ?_
      refine after.seq ?_
      refine WK.seq ?_
      refine WK.region ?_
      refine WR.op rfl rfl rfl rfl ?_
      refine WR.nil ?_
      refine after.seq ?_
      refine WK.seq ?_
      refine WK.region ?_
      refine WR.op rfl rfl rfl rfl ?_
      refine WR.op rfl rfl rfl rfl ?_
      refine WR.call (f := 23) («as» := [.ptr (st.next + 1) 0, .str nm, .int .i64 0]) rfl (.inl rfl) rfl rfl rfl rfl ((hT (hr1.ext hx2) 0 (by decide) (by decide)).mono ?_)
      rintro v3 st3 ⟨rfl, k3'⟩
      have hx1 : Ext st1 st3 := hx2.trans k3'
      have k3 := hx1
      refine WR.op rfl rfl rfl rfl ?_
      refine WR.op rfl rfl rfl rfl ?_
      refine WR.nil ?_
      refine after.seq ?_
      refine WK.seq ?_
      refine WK.seq ?_
      refine WK.region ?_
      refine WR.op rfl rfl rfl rfl ?_
      refine WR.nil ?_
      refine after.seq ?_
      refine WK.block ?_
      refine cnt_loop (tx := tx) (sep := sep) (nm := nm) (stA0 := st) hs22 hsp (fun n h0 h1 => (htx1 n h0 h1).2) (k1.trans k3) hln hE hlen (fun n h0 h1 st' hx => hT (hr1.ext (hx1.trans hx)) n h0 h1) l [] rfl .nils 0 _ (.inl ⟨rfl, rfl⟩) (Ext.refl st3) (.inl rfl) _ rfl rfl rfl rfl rfl rfl rfl rfl fun env4 st4 y4 f4 g0 g1 g7 g8 g9 g10 g11 hrow hx4 => ?_
      have hEl := hrow.els
      have hyp := row_plain hrow
      have hr4 := hr1.ext (hx1.trans hx4)
      have hxa := k1.trans (k3.trans hx4)
      refine after.seq ?_
      refine WK.sub [(0, x), (1, .str sep), (7, .ptr (st.next + 1) 0), (8, .str nm), (9, y4), (10, .str (joinS sep ((l.map (· % 50)).map tx))), (11, .str (tx ((l.map (· % 50)).getLastD 0)))] ?_ ?_
      · intro t v ht
        simp only [lookE_cons] at ht
        by_cases e0 : t = 0
        · rw [if_pos e0] at ht; subst e0; rw [g0]; exact ht
        rw [if_neg e0] at ht
        by_cases e1 : t = 1
        · rw [if_pos e1] at ht; subst e1; rw [g1]; exact ht
        rw [if_neg e1] at ht
        by_cases e7 : t = 7
        · rw [if_pos e7] at ht; subst e7; rw [g7]; exact ht
        rw [if_neg e7] at ht
        by_cases e8 : t = 8
        · rw [if_pos e8] at ht; subst e8; rw [g8]; exact ht
        rw [if_neg e8] at ht
        by_cases e9 : t = 9
        · rw [if_pos e9] at ht; subst e9; rw [g9]; exact ht
        rw [if_neg e9] at ht
        by_cases e10 : t = 10
        · rw [if_pos e10] at ht; subst e10; rw [g10]; exact ht
        rw [if_neg e10] at ht
        by_cases e11 : t = 11
        · rw [if_pos e11] at ht; subst e11; rw [g11]; exact ht
        rw [if_neg e11] at ht
        cases ht
      refine WK.seq ?_
      refine WK.seq ?_
      refine WK.region ?_
      refine WR.op rfl rfl rfl rfl ?_
      refine WR.op rfl rfl (hln rfl) rfl ?_
      refine WR.op rfl rfl (r_eql rfl rfl (ieqb_F (by omega))) rfl ?_
      refine WR.nil ?_
      refine after.seq ?_
      refine WK.cond rfl (fun h => (by cases h)) (fun _ => ?_)
      refine WK.skip ?_
      refine after.seq ?_
      refine WK.seq ?_
      refine WK.seq ?_
      refine WK.region ?_
      refine WR.op rfl rfl rfl rfl ?_
      refine WR.op rfl rfl (r_seql rfl rfl hno) rfl ?_
      refine WR.nil ?_
      refine after.seq ?_
      refine WK.cond rfl (fun h => (by cases h)) (fun _ => ?_)
      refine WK.skip ?_
      refine after.seq ?_
      refine WK.seq ?_
      refine WK.region ?_
      refine WR.op rfl rfl rfl rfl ?_
      refine WR.op rfl rfl rfl rfl ?_
      refine WR.op rfl rfl rfl rfl ?_
      refine WR.op rfl rfl (r_b60a rfl rfl rfl) rfl ?_
      refine WR.call (f := 24) («as» := [.ptr (st.next + 1) 0, y4, itemV 3 nN [] nm]) rfl (.inl rfl) rfl rfl rfl rfl ((one_counter (u := tx ((l.map (· % 50)).getLastD 0)) (fun f hf => cs_cnt f (by revert f; decide)) [] (by omega) hEl hyp.1 hyp.2 hno (fun st' hx => by rw [hv1]; exact hT (hr4.ext hx) _ hv4.1 hv4.2)).mono ?_)
      rintro v5 st5 ⟨rfl, k5⟩
      refine WR.op rfl rfl rfl rfl ?_
      refine WR.op rfl rfl (r_seql rfl rfl (eqL_same _)) rfl ?_
      refine WR.op rfl rfl rfl rfl ?_
      refine WR.opG rfl rfl rfl rfl rfl ?_
      refine WR.opG rfl rfl rfl rfl rfl ?_
      refine WR.opG rfl rfl rfl rfl rfl ?_
      refine WR.opG rfl rfl rfl rfl rfl ?_
      refine WR.opG rfl rfl rfl (r_b60b rfl rfl rfl rfl) rfl ?_
      refine WR.call (f := 24) («as» := [.ptr (st.next + 1) 0, y4, itemV 4 nN sep nm]) rfl (.inr ⟨_, _, rfl, rfl⟩) rfl rfl rfl rfl ((one_counters (tx := tx) (cs := ctrsI 0 (l.map (· % 50))) (fun f hf => cs_cnt f (by revert f; decide)) (by omega) (by omega) (hEl.ext k5) hyp.1 hyp.2 hno (by rw [hv2]; omega) (fun n hn => by rw [hv2] at hn; exact htx1 n (hv3 n hn).1 (hv3 n hn).2) (fun n hn st' hx => by
        rw [hv2] at hn
        rcases hn with rfl | hn
        · exact hT (hr4.ext (k5.trans hx)) 0 (by decide) (by decide)
        · exact hT (hr4.ext (k5.trans hx)) n (hv3 n hn).1 (hv3 n hn).2)).mono ?_)
      rw [hv2]
      rintro v6 st6 ⟨rfl, k6⟩
      refine WR.opG rfl rfl rfl rfl rfl ?_
      refine WR.opG rfl rfl rfl (r_seql rfl rfl (q := true) hall) rfl ?_
      refine WR.op rfl rfl rfl rfl ?_
      refine WR.op rfl rfl rfl rfl ?_
      refine WR.opG rfl rfl rfl rfl rfl ?_
      refine WR.opG rfl rfl rfl rfl rfl ?_
      refine WR.opG rfl rfl rfl rfl rfl ?_
      refine WR.opG rfl rfl rfl (r_b60a rfl rfl rfl) rfl ?_
      refine WR.call (f := 24) («as» := [.ptr (st.next + 1) 0, y4, itemV 1 sep [] noneT]) rfl (.inr ⟨_, _, rfl, rfl⟩) rfl rfl rfl rfl ((one_words (cs_cnt 24 (by decide)) _ _ _ _ _ _).mono ?_)
      rintro v7 st7 ⟨rfl, k7⟩
      refine WR.opG rfl rfl rfl rfl rfl ?_
      refine WR.opG rfl rfl rfl (r_seql rfl rfl (eqL_same _)) rfl ?_
      refine WR.op rfl rfl rfl rfl ?_
      refine WR.op rfl rfl rfl rfl ?_
      refine WR.opG rfl rfl rfl rfl rfl ?_
      refine WR.opG rfl rfl rfl rfl rfl ?_
      refine WR.opG rfl rfl rfl (r_b60c rfl) rfl ?_
      refine WR.call (f := 24) («as» := [.ptr (st.next + 1) 0, y4, itemV 5 [] [] []]) rfl (.inr ⟨_, _, rfl, rfl⟩) rfl rfl rfl rfl ((one_open (cs_cnt 24 (by decide)) _ _ _ _ _ _).mono ?_)
      rintro v8 st8 ⟨rfl, k8⟩
      refine WR.opG rfl rfl rfl (r_seql rfl rfl (q := true) rfl) rfl ?_
      refine WR.op rfl rfl rfl rfl ?_
      refine WR.op rfl rfl rfl rfl ?_
      refine WR.call (f := 14) («as» := []) rfl (.inr ⟨_, _, rfl, rfl⟩) rfl rfl rfl rfl ((aw_ok (by decide) (hK ((((hxa.trans k5).trans k6).trans k7).trans k8))).mono ?_)
      rintro va _ ⟨rfl, rfl⟩
      refine WR.op rfl rfl rfl rfl ?_
      refine WR.op rfl rfl rfl rfl ?_
      refine WR.nil ?_
      refine after.seq ?_
      refine WK.ret ?_
      exact ⟨ret_ne 0, ret_ne, [.bool true], (by rw [res5]; rfl), rfl⟩
theorem cnt_true {x : AV} {l : List Int} {sep : List UInt8} {style : Int} {st : St} {e : TypeId} (hln : ∀ {ρ : Rho} {y : Operand} {st : St}, ρ y = some x → aopR Tryz.prog ρ st (.call ⟨.builtin .len, #[y], #[55]⟩) = some (.int .i64 (l.length : Int), st)) (hE : l ≠ [] → Els st x 1 (l.map intZ))
    (hG : PT id (stG e) st) (hN : NF st) (hK : ∀ {st' : St}, Ext st st' → KnowsG st') :
    CallW (CS (sumK (XA 14))) 5 [x, .str sep, .int .i64 style] st fun v _ => v = .bool true := by
  by_cases ha : 10 < l.length
  · refine CallW.enter (cs_cnt 5 (by decide) _ _) Tryz.func5 body5 c5_of rfl ?_
    rw [nt5]
    unfold c5
    refine WK.seq ?_
    refine WK.region ?_
    refine WR.op rfl rfl rfl rfl ?_
    refine WR.nil ?_
    refine after.seq ?_
    refine WK.seq ?_
    refine WK.seq ?_
    refine WK.region ?_
    refine WR.op rfl rfl rfl rfl ?_
    refine WR.op rfl rfl (hln rfl) rfl ?_
    refine WR.op rfl rfl (r_gtr rfl rfl (iltb_T (by omega))) rfl ?_
    refine WR.op rfl rfl rfl rfl ?_
    refine WR.off rfl rfl rfl rfl rfl ?_
    refine WR.off rfl rfl rfl rfl rfl ?_
    refine WR.off rfl rfl rfl rfl rfl ?_
    refine WR.op rfl rfl rfl rfl ?_
    refine WR.nil ?_
    refine after.seq ?_
    refine WK.cond rfl (fun _ => ?_) (fun h => (by cases h))
    refine WK.seq ?_
    refine WK.region ?_
    refine WR.call (f := 14) («as» := []) rfl (.inl rfl) rfl rfl rfl rfl ((aw_ok (by decide) (hK (Ext.refl _))).mono ?_)
    rintro va _ ⟨rfl, rfl⟩
    refine WR.op rfl rfl rfl rfl ?_
    refine WR.nil ?_
    refine after.seq ?_
    refine WK.ret ?_
    refine after.seq_ret ?_
    exact ⟨ret_ne 0, ret_ne, [.bool true], (by rw [res5]; rfl), rfl⟩
  by_cases hb : 10 < sep.length
  · refine CallW.enter (cs_cnt 5 (by decide) _ _) Tryz.func5 body5 c5_of rfl ?_
    rw [nt5]
    unfold c5
    refine WK.seq ?_
    refine WK.region ?_
    refine WR.op rfl rfl rfl rfl ?_
    refine WR.nil ?_
    refine after.seq ?_
    refine WK.seq ?_
    refine WK.seq ?_
    refine WK.region ?_
    refine WR.op rfl rfl rfl rfl ?_
    refine WR.op rfl rfl (hln rfl) rfl ?_
    refine WR.op rfl rfl (r_gtr rfl rfl (iltb_F (by omega))) rfl ?_
    refine WR.op rfl rfl rfl rfl ?_
    refine WR.opG rfl rfl rfl rfl rfl ?_
    refine WR.opG rfl rfl rfl (r_len_str un9 rfl) rfl ?_
    refine WR.opG rfl rfl rfl (r_gtr rfl rfl (iltb_T (by omega))) rfl ?_
    refine WR.op rfl rfl rfl rfl ?_
    refine WR.nil ?_
    refine after.seq ?_
    refine WK.cond rfl (fun _ => ?_) (fun h => (by cases h))
    refine WK.seq ?_
    refine WK.region ?_
    refine WR.call (f := 14) («as» := []) rfl (.inl rfl) rfl rfl rfl rfl ((aw_ok (by decide) (hK (Ext.refl _))).mono ?_)
    rintro va _ ⟨rfl, rfl⟩
    refine WR.op rfl rfl rfl rfl ?_
    refine WR.nil ?_
    refine after.seq ?_
    refine WK.ret ?_
    refine after.seq_ret ?_
    exact ⟨ret_ne 0, ret_ne, [.bool true], (by rw [res5]; rfl), rfl⟩
  have hq : style % 4 = 0 ∨ style % 4 = 1 ∨ style % 4 = 2 ∨ style % 4 = 3 := by omega
  rcases hq with hq | hq | hq | hq
  · exact cnt_main (k := 0) (nm := nm0) hln hE (by omega) (by omega) hG hN hK hq rfl tx0 (isN := false) (by kernel_rfl)
  · exact cnt_main (k := 1) (nm := nm5) hln hE (by omega) (by omega) hG hN hK hq rfl tx1 (isN := false) (by kernel_rfl)
  · exact cnt_main (k := 2) (nm := nm11) hln hE (by omega) (by omega) hG hN hK hq rfl tx2 (isN := true) (by kernel_rfl)
  · exact cnt_main (k := 3) (nm := nm2) hln hE (by omega) (by omega) hG hN hK hq rfl tx3 (isN := false) (by kernel_rfl)
end Go.Proofs.Tz
