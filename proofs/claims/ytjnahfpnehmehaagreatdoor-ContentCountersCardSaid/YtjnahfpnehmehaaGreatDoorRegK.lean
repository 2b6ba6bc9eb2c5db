/- What is known of the own registry: or, May, and what its styles tell. -/
import Derived.Test.YtjnahfpnehmehaaGreatDoorRegOrRun
import Derived.Test.YtjnahfpnehmehaaGreatDoorRegRun
import Derived.Test.YtjnahfpnehmehaaGreatDoorRegC
import Derived.Test.YtjnahfpnehmehaaGreatDoorTz5
namespace Go.Proofs.Tz
open Go Go.AE Go.RowKit Go.Proofs
set_option maxRecDepth 100000

theorem stG_low (e : TypeId) : LowS (stG e) := by
  have hro : ∀ b o, (stG e).heap.get b = some o → b = 0 ∧ o = .cells ⟨e, 1, spaceT, 256, 256, .ro⟩ := by
    intro b o hb
    rw [stG_get] at hb
    by_cases e1 : b = 0
    · rw [if_pos e1] at hb; exact ⟨e1, (Option.some.inj hb).symm⟩
    · rw [if_neg e1] at hb; cases hb
  refine ⟨⟨Nat.le_refl 64, fun b o hb => ?_, fun b o f hb hf => ?_, fun f F hF => ?_⟩, fun b o hb => ?_, fun f F hF => ?_⟩
  · obtain ⟨rfl, rfl⟩ := hro b o hb
    exact ⟨by show 0 < 64; decide, trivial⟩
  · obtain ⟨rfl, rfl⟩ := hro b o hb
    cases hf
  · cases hF
  · obtain ⟨rfl, rfl⟩ := hro b o hb
    show (true && lowT 64 spaceT) = true
    kernel_rfl
  · cases hF
theorem sN_low (e : TypeId) : LowS (sN e) := addS_low (stG_low e) (Memo.okB_of (by kernel_rfl))
def nm0 : List UInt8 := [100, 101, 99, 105, 109, 97, 108]
def nm1 : List UInt8 := [100, 101, 99, 105, 109, 97, 108, 45, 108, 101, 97, 100, 105, 110, 103, 45, 122, 101, 114, 111]
def nm2 : List UInt8 := [108, 111, 119, 101, 114, 45, 97, 108, 112, 104, 97]
def nm3 : List UInt8 := [117, 112, 112, 101, 114, 45, 97, 108, 112, 104, 97]
def nm4 : List UInt8 := [108, 111, 119, 101, 114, 45, 114, 111, 109, 97, 110]
def nm5 : List UInt8 := [117, 112, 112, 101, 114, 45, 114, 111, 109, 97, 110]
def nm6 : List UInt8 := [108, 111, 119, 101, 114, 45, 103, 114, 101, 101, 107]
def nm7 : List UInt8 := [100, 105, 115, 99]
def nm8 : List UInt8 := [99, 105, 114, 99, 108, 101]
def nm9 : List UInt8 := [115, 113, 117, 97, 114, 101]
def nm10 : List UInt8 := [85, 80, 80, 69, 82, 45, 114, 111, 109, 97, 110]
def nm11 : List UInt8 := [110, 111, 110, 101]
/-- The style that a name stands for. -/
noncomputable def orIdx (nm : List UInt8) : Nat := bif eqL nm nm0 then 0 else bif eqL nm nm1 then 1 else bif eqL nm nm2 then 2 else bif eqL nm nm3 then 3 else bif eqL nm nm4 then 4 else bif eqL nm nm5 then 5 else bif eqL nm nm6 then 6 else bif eqL nm nm7 then 7 else bif eqL nm nm8 then 8 else bif eqL nm nm9 then 9 else bif eqL nm nm10 then 10 else 11
noncomputable def orName : Nat → List UInt8
  | 0 => nm0
  | 1 => nm1
  | 2 => nm2
  | 3 => nm3
  | 4 => nm4
  | 5 => nm5
  | 6 => nm6
  | 7 => nm7
  | 8 => nm8
  | 9 => nm9
  | 10 => nm10
  | _ => nm11
noncomputable def mOr : Nat → Memo
  | 0 => mOr0
  | 1 => mOr1
  | 2 => mOr2
  | 3 => mOr3
  | 4 => mOr4
  | 5 => mOr5
  | 6 => mOr6
  | 7 => mOr7
  | 8 => mOr8
  | 9 => mOr9
  | 10 => mOr10
  | _ => mOr11
noncomputable def mMay : Nat → Memo
  | 0 => mMay0
  | 1 => mMay1
  | 2 => mMay2
  | 3 => mMay3
  | 4 => mMay4
  | 5 => mMay5
  | 6 => mMay6
  | 7 => mMay7
  | 8 => mMay8
  | 9 => mMay9
  | 10 => mMay10
  | _ => mMay11
theorem or_run (e : TypeId) : ∀ i, memoOk (sN e) (mOr i) (acallN C0 100000 55 [.ptr 65 0, .str (orName i)] (sN e)) = some [(e, e)]
  | 0 => or0_run e
  | 1 => or1_run e
  | 2 => or2_run e
  | 3 => or3_run e
  | 4 => or4_run e
  | 5 => or5_run e
  | 6 => or6_run e
  | 7 => or7_run e
  | 8 => or8_run e
  | 9 => or9_run e
  | 10 => or10_run e
  | _ + 11 => or11_run e
theorem may_run (e : TypeId) : ∀ i, memoOk (addS (mOr i) (sN e)) (mMay i) (acallN C0 100000 70 [(mOr i).v] (addS (mOr i) (sN e))) = some [(e, e)]
  | 0 => may0_run e
  | 1 => may1_run e
  | 2 => may2_run e
  | 3 => may3_run e
  | 4 => may4_run e
  | 5 => may5_run e
  | 6 => may6_run e
  | 7 => may7_run e
  | 8 => may8_run e
  | 9 => may9_run e
  | 10 => may10_run e
  | _ + 11 => may11_run e
theorem or_okB : ∀ i, (mOr i).okB 469 = true
  | 0 => (by kernel_rfl)
  | 1 => (by kernel_rfl)
  | 2 => (by kernel_rfl)
  | 3 => (by kernel_rfl)
  | 4 => (by kernel_rfl)
  | 5 => (by kernel_rfl)
  | 6 => (by kernel_rfl)
  | 7 => (by kernel_rfl)
  | 8 => (by kernel_rfl)
  | 9 => (by kernel_rfl)
  | 10 => (by kernel_rfl)
  | _ + 11 => (by kernel_rfl)
theorem may_okB : ∀ i, (mMay i).okB (mOr i).n1 = true
  | 0 => (by kernel_rfl)
  | 1 => (by kernel_rfl)
  | 2 => (by kernel_rfl)
  | 3 => (by kernel_rfl)
  | 4 => (by kernel_rfl)
  | 5 => (by kernel_rfl)
  | 6 => (by kernel_rfl)
  | 7 => (by kernel_rfl)
  | 8 => (by kernel_rfl)
  | 9 => (by kernel_rfl)
  | 10 => (by kernel_rfl)
  | _ + 11 => (by kernel_rfl)
theorem may_v : ∀ i, (mMay i).v = .bool true
  | 0 => rfl
  | 1 => rfl
  | 2 => rfl
  | 3 => rfl
  | 4 => rfl
  | 5 => rfl
  | 6 => rfl
  | 7 => rfl
  | 8 => rfl
  | 9 => rfl
  | 10 => rfl
  | _ + 11 => rfl
theorem or_low : ∀ i, lowA (mOr i).n1 (mOr i).v = true
  | 0 => (by kernel_rfl)
  | 1 => (by kernel_rfl)
  | 2 => (by kernel_rfl)
  | 3 => (by kernel_rfl)
  | 4 => (by kernel_rfl)
  | 5 => (by kernel_rfl)
  | 6 => (by kernel_rfl)
  | 7 => (by kernel_rfl)
  | 8 => (by kernel_rfl)
  | 9 => (by kernel_rfl)
  | 10 => (by kernel_rfl)
  | _ + 11 => (by kernel_rfl)
theorem may_no : ∀ i, (mMay i).live = []
  | 0 => rfl
  | 1 => rfl
  | 2 => rfl
  | 3 => rfl
  | 4 => rfl
  | 5 => rfl
  | 6 => rfl
  | 7 => rfl
  | 8 => rfl
  | 9 => rfl
  | 10 => rfl
  | _ + 11 => rfl
theorem or_ok (i : Nat) : (mOr i).Ok 469 := Memo.okB_of (or_okB i)
theorem may_ok (i : Nat) : (mMay i).Ok (mOr i).n1 := Memo.okB_of (may_okB i)

/-- Calls that are known: (function, arguments, state) to (answer, state). -/
abbrev Known := FuncId → List AV → St → AV × St → Prop
inductive K (X : Known) : Known
  | new {e : TypeId} {st : St} : PT id (stG e) st → NF st → K X 19 [.nils] st (ren (tl id 64 st.next) mNew.v, addL (tl id 64 st.next) mNew st)
  | or {e : TypeId} {m : Nat} {st : St} {nm : List UInt8} : orName (orIdx nm) = nm → PT (tl id 64 m) (sN e) st → NF st → K X 55 [.ptr (m + 1) 0, .str nm] st (ren (tl (tl id 64 m) 469 st.next) (mOr (orIdx nm)).v, addL (tl (tl id 64 m) 469 st.next) (mOr (orIdx nm)) st)
  | may {e : TypeId} {m n i : Nat} {st : St} : PT (tl (tl id 64 m) 469 n) (addS (mOr i) (sN e)) st → K X 70 [ren (tl (tl id 64 m) 469 n) (mOr i).v] st (.bool true, addL (tl (tl (tl id 64 m) 469 n) (mOr i).n1 st.next) (mMay i) st)
  | more {f : FuncId} {xs : List AV} {st : St} {r : AV × St} : X f xs st r → K X f xs st r
open Classical in
noncomputable def sumK (X : Known) (f : FuncId) (xs : List AV) (st : St) : Option (AV × St) := if h : ∃ r, K X f xs st r then some h.choose else none
theorem CallW.known {X : Known} {f : FuncId} {xs : List AV} {st : St} {r : AV × St} {Q : AV → St → Prop} (h : K X f xs st r) (hQ : ∀ v st', K X f xs st (v, st') → Q v st') : CallW (CS (sumK X)) f xs st Q := by
  have hx : ∃ r, K X f xs st r := ⟨r, h⟩
  have hc : sumK X f xs st = some hx.choose := dif_pos hx
  exact CallW.sum (v := hx.choose.1) (st' := hx.choose.2) hc (hQ _ _ hx.choose_spec)
/-- What X speaks of. -/
def Dom (X : Known) (l : List FuncId) : Prop := ∀ f xs st r, X f xs st r → f ∈ l
theorem sumK_no {X : Known} {l : List FuncId} (hX : Dom X l) {f : FuncId} (h : f ∉ 19 :: 55 :: 70 :: l) (xs : List AV) (st : St) : sumK X f xs st = none := by
  refine dif_neg ?_
  rintro ⟨r, k⟩
  cases k with
  | new => exact h (by simp)
  | or => exact h (by simp)
  | may => exact h (by simp)
  | more k =>
    have := hX _ _ _ _ k
    exact h (by simp [this])
theorem sumK_nos {X : Known} {l : List FuncId} (hX : Dom X l) {fs : List FuncId} (h : ∀ f ∈ fs, f ∉ 19 :: 55 :: 70 :: l) : ∀ f ∈ fs, ∀ xs st, sumK X f xs st = none := fun f hf => sumK_no hX (h f hf)
theorem body19 : Tryz.f19.body = some (Tryz.f19.body.get!) := by kernel_rfl
theorem body55 : Tryz.f55.body = some (Tryz.f55.body.get!) := by kernel_rfl
theorem body70 : Tryz.f70.body = some (Tryz.f70.body.get!) := by kernel_rfl
theorem pairs_ee {e : TypeId} : ∀ p ∈ [(e, e)], p.1 = p.2 := fun p hp => by
  obtain rfl := List.mem_singleton.1 hp
  rfl
theorem sumK_ok {X : Known} (hX : ∀ f xs st r, X f xs st r → SumOk Tryz.prog f xs st r.1 r.2) (f : FuncId) (args : List AV) (st : St) (v : AV) (st' : St) (h : sumK X f args st = some (v, st')) : SumOk Tryz.prog f args st v st' := by
  unfold sumK at h
  split at h
  · rename_i hx
    have hk := hx.choose_spec
    rw [Option.some.inj h] at hk
    cases hk with
    | new hp hn => exact PT.call ctxOk0 mixed Tryz.func19 body19 (stG_low _) hp (mNew_run _) pairs_ee
    | @or e m _ nm hnm hp hn =>
      have := PT.call ctxOk0 mixed Tryz.func55 body55 (sN_low _) hp (or_run e (orIdx nm)) pairs_ee
      rw [hnm] at this
      exact this
    | @may e m n i _ hp =>
      have := PT.call ctxOk0 mixed Tryz.func70 body70 (addS_low (sN_low _) (or_ok i)) hp (may_run e i) pairs_ee
      rw [may_v] at this
      have e1 : renL (tl (tl (tl id 64 m) 469 n) (addS (mOr i) (sN e)).next st.next) [(mOr i).v] = [ren (tl (tl id 64 m) 469 n) (mOr i).v] := by
        rw [renL, renL, lowA_cg (σ := tl (tl (tl id 64 m) 469 n) (addS (mOr i) (sN e)).next st.next) (σ' := tl (tl id 64 m) 469 n) (n := (mOr i).n1) (fun b hb => tl_lo hb) (or_low i)]
      rw [e1] at this
      exact this
    | more k => exact hX _ _ _ _ k
  · cases h

/-- The own registry stands from m on; its own place is m + 1. -/
def RegAt (m : Nat) (st : St) : Prop := (∃ e, PT (tl id 64 m) (sN e) st) ∧ NF st ∧ 64 ≤ m
theorem RegAt.le {m : Nat} {st : St} (h : RegAt m st) : m + 405 ≤ st.next := by
  obtain ⟨⟨e, h⟩, _⟩ := h
  have : 468 < (sN e).next := by show 468 < 469; decide
  have := h.lt this
  rw [tl_hi (by decide)] at this
  omega
theorem RegAt.lt {m k : Nat} (hm : 64 ≤ m) (hk : k < 469) : tl id 64 m k < m + 405 := by
  unfold tl
  split
  · show k < _; omega
  · omega
theorem RegAt.same {m b0 : Nat} {st st' : St} (h : RegAt m st) (hb : m + 405 ≤ b0) (k : Same (fun k => k < b0) st st') : RegAt m st' := by
  obtain ⟨⟨e, h1⟩, h2, h3⟩ := h
  exact ⟨⟨e, h1.same (sN_low e) k fun b hb' => Nat.lt_of_lt_of_le (RegAt.lt h3 hb') hb⟩, h2.same k, h3⟩
theorem RegAt.ext {m : Nat} {st st' : St} (h : RegAt m st) (k : Ext st st') : RegAt m st' := h.same (b0 := m + 405) (Nat.le_refl _) (k.same fun _ hk => Nat.lt_of_lt_of_le hk h.le)
/-- registry.New(nil). -/
theorem new_ok {X : Known} {l : List FuncId} (hX : Dom X l) (h19 : 19 ∉ l) {e : TypeId} {st : St} (h : PT id (stG e) st) (hn : NF st) : CallW (CS (sumK X)) 19 [.nils] st fun v st' => v = .ptr (st.next + 1) 0 ∧ RegAt st.next st' ∧ Ext st st' := by
  refine CallW.known (.new h hn) fun v st' k => ?_
  cases k with
  | more k => exact absurd (hX _ _ _ _ k) h19
  | @new e' _ h' _ =>
    have hE : Ext st (addL (tl id 64 st.next) mNew st) := h'.addExt (Memo.okB_of (by kernel_rfl))
    have h64 : 64 ≤ st.next := by
      have := h'.lt (b := 63) (show 63 < 64 by decide)
      exact this
    exact ⟨rfl, ⟨⟨e', h'.add (stG_low e') (Memo.okB_of (by kernel_rfl)) hn⟩, hn.ext hE, h64⟩, hE⟩

/-! What or answers -/
/-- A style of a row of signs alone. -/
structure RowSty (nm : List UInt8) (d : AV → D) (a f len : Nat) (syms : List (List UInt8)) : Prop where
  key : orName (orIdx nm) = nm
  v : ∀ σ, ren σ (mOr (orIdx nm)).v = (d (.slc (σ a) 0 len none)).av
  lo : 469 ≤ a ∧ a < (mOr (orIdx nm)).n1
  get : ∀ e, ∃ hi room, hi = syms.length ∧ (addS (mOr (orIdx nm)) (sN e)).heap.get a = some (.cells ⟨9, 1, setEls .nil 0 (syms.map strC), hi, room, .opn f⟩)
  fam : ∀ e, ∃ F, (addS (mOr (orIdx nm)) (sN e)).fams.get f = some F ∧ F.since ≤ a
  len : len = syms.length
theorem strC_ren (σ : Nat → Nat) (syms : List (List UInt8)) : (syms.map strC).map (renL σ) = syms.map strC := by
  rw [List.map_map]
  exact List.map_congr_left fun s _ => rfl
theorem or_gen {X : Known} {l : List FuncId} (hX : Dom X l) (h55 : 55 ∉ l) (h70 : 70 ∉ l) {nm : List UInt8} (hkey : orName (orIdx nm) = nm) {d : (Nat → Nat) → D} (hv : ∀ σ, ren σ (mOr (orIdx nm)).v = (d σ).av) (hpl : ∀ σ, (d σ).Plain) {n : Int} {s : Sty} (hbase : ∀ σ, d σ = { s.base with syms := (d σ).syms, weights := (d σ).weights, range := (d σ).range }) {m : Nat} {st : St} (h : RegAt m st)
    (htell : ∀ σ e st', PT σ (addS (mOr (orIdx nm)) (sN e)) st' → NF st' → (∀ st1, Ext st' st1 → CallW (CS (sumK X)) 70 [(d σ).av] st1 fun v st2 => v = .bool true ∧ Ext st1 st2) → CallW (CS (sumK X)) 47 [(d σ).av, .int .i64 n] st' fun v st2 => v = .tup [.str s.txt, .bool s.ok] ∧ Ext st' st2) :
    OrW (CS (sumK X)) n (.ptr (m + 1) 0) nm (m + 405) st s := by
  intro st1 hsame
  have h1 := h.same (Nat.le_refl _) hsame
  obtain ⟨⟨e, hp⟩, hn, h64⟩ := h1
  refine CallW.known (.or hkey hp hn) fun v st2 k => ?_
  generalize hfd : (55 : FuncId) = fd at k
  generalize hargs : [AV.ptr (m + 1) 0, AV.str nm] = args at k
  cases k with
  | new => cases hfd
  | may => cases hfd
  | more k => subst hfd; exact absurd (hX _ _ _ _ k) h55
  | @or e' m' _ nm' _ hp' hn' =>
    simp only [List.cons.injEq, AV.ptr.injEq, AV.str.injEq, and_true, Nat.add_right_cancel_iff] at hargs
    obtain ⟨rfl, rfl⟩ := hargs
    have hok := or_ok (orIdx nm)
    have hE := hp'.addExt hok
    have hA := hp'.add (sN_low e') hok hn'
    refine ⟨⟨d (tl (tl id 64 m) 469 st1.next), hv _, ⟨hpl _, hbase _, fun st3 hS => ?_⟩⟩, hE⟩
    have hnx : (addL (tl (tl id 64 m) 469 st1.next) (mOr (orIdx nm)) st1).next = st1.next + ((mOr (orIdx nm)).n1 - 469) := PT.next (s0 := sN e') hok.le
    have hP3 := hA.same (addS_low (sN_low e') hok) hS fun b hb => by
      by_cases hb' : b < 469
      · left
        rw [show tl (tl id 64 m) (sN e').next st1.next b = tl id 64 m b from tl_lo hb']
        exact RegAt.lt h64 hb'
      · right
        rw [show tl (tl id 64 m) (sN e').next st1.next b = st1.next + (b - 469) from tl_hi (show 469 ≤ b by omega), hnx]
        have : b < (mOr (orIdx nm)).n1 := hb
        omega
    refine htell _ e' st3 hP3 ((hn'.ext hE).same hS) fun st4 k4 => ?_
    have hP4 := hP3.ext (addS_low (sN_low e') hok) k4
    have hm : K X 70 [(d (tl (tl id 64 m) 469 st1.next)).av] st4 (.bool true, addL (tl (tl (tl id 64 m) 469 st1.next) (mOr (orIdx nm)).n1 st4.next) (mMay (orIdx nm)) st4) := by
      rw [← hv]
      exact .may hP4
    refine CallW.known hm fun v st5 k5 => ?_
    generalize hargs : [(d (tl (tl id 64 m) 469 st1.next)).av] = args at k5
    generalize hfd : (70 : FuncId) = fd at k5
    cases k5 with
    | new => cases hfd
    | or => cases hfd
    | more k => subst hfd; exact absurd (hX _ _ _ _ k) h70
    | may hp5 => exact ⟨rfl, hp5.addExt (may_ok _)⟩
/-- A row of signs, or of numbers, that or answers with. -/
theorem or_els {nm : List UInt8} {σ : Nat → Nat} {e : TypeId} {st : St} (h : PT σ (addS (mOr (orIdx nm)) (sN e)) st) {a f len hi room el z : Nat} {l : List (List AV)} (hget : (addS (mOr (orIdx nm)) (sN e)).heap.get a = some (.cells ⟨el, z, setEls .nil 0 l, hi, room, .opn f⟩)) (hfam : ∃ F, (addS (mOr (orIdx nm)) (sN e)).fams.get f = some F ∧ F.since ≤ a) (hl : len = l.length) (hh : hi = l.length) (hr : l.map (renL σ) = l) : Els st (.slc (σ a) 0 len none) z l := by
  have := h.els (addS_low (sN_low e) (or_ok _)) hget (len := len) (c := none) hl hh (fun g hg => by
    obtain rfl := Kind.opn.inj hg
    exact hfam)
  rw [hr] at this
  exact this
theorem or_sty {X : Known} {l : List FuncId} (hX : Dom X l) (h55 : 55 ∉ l) {nm : List UInt8} {d : AV → D} {a f len : Nat} {syms : List (List UInt8)} (hd : RowSty nm d a f len syms) (hpl : ∀ x, x.plain = true → (d x).Plain) {n : Int} {s : Sty} (hbase : ∀ x, d x = { s.base with syms := (d x).syms, weights := (d x).weights, range := (d x).range }) {m : Nat} {st : St} (h : RegAt m st)
    (htell : ∀ b st', Els st' (.slc b 0 len none) 1 (syms.map strC) → (∀ st1, Ext st' st1 → CallW (CS (sumK X)) 70 [(d (.slc b 0 len none)).av] st1 fun v st2 => v = .bool true ∧ Ext st1 st2) → CallW (CS (sumK X)) 47 [(d (.slc b 0 len none)).av, .int .i64 n] st' fun v st2 => v = .tup [.str s.txt, .bool s.ok] ∧ Ext st' st2)
    (h70 : 70 ∉ l) : OrW (CS (sumK X)) n (.ptr (m + 1) 0) nm (m + 405) st s :=
  or_gen hX h55 h70 hd.key (d := fun σ => d (.slc (σ a) 0 len none)) hd.v (fun _ => hpl _ rfl) (fun _ => hbase _) h fun σ e st' hp _ hmay => by
    obtain ⟨hi, room, hhi, hget⟩ := hd.get e
    exact htell _ st' (or_els hp hget (hd.fam e) (by rw [List.length_map]; exact hd.len) (by rw [List.length_map]; exact hhi) (strC_ren σ syms)) hmay
end Go.Proofs.Tz
