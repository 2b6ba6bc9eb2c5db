/- RegistryRoman: the law is true. -/
import Derived.Test.YtjnahfpnehmehaaGreatDoorRomPlain
namespace Go.Proofs.Tz
open Go Go.AE Go.RowKit Go.Proofs
set_option maxRecDepth 100000
theorem h55r : (55 : FuncId) ∉ [(27 : FuncId)] := by decide
theorem h70r : (70 : FuncId) ∉ [(27 : FuncId)] := by decide
theorem h19r : (19 : FuncId) ∉ [(27 : FuncId)] := by decide
theorem hsr : ∀ f ∈ 121 :: 164 :: walked, ∀ xs st, sumK (XA 27) f xs st = none := sumK_nos (XA_dom 27) (by decide)
theorem rom_true (n : Int) (upper : Bool) (h1 : -9223372036854775808 ≤ n) (h2 : n ≤ 9223372036854775807) (e : TypeId) : CallW (CS (sumK (XA 27))) 7 [.int .i64 n, .bool upper] (stG e) fun v _ => v = .bool true := by
  have hs : ∀ xs st, sumK (XA 27) 7 xs st = none := sumK_no (XA_dom 27) (by decide)
  have hkn : ∀ {st : St}, Ext (stG e) st → KnowsG st := fun h => (stG_knows e).ext h (Nat.le_refl 64)
  by_cases ha : n < -5000
  · refine CallW.enter (hs _ _) Tryz.func7 body7 c7_of rfl ?_
    rw [nt7]
    unfold c7
    refine WK.seq ?_
    refine WK.region ?_
    refine WR.op rfl rfl rfl rfl ?_
    refine WR.nil ?_
    refine after.seq ?_
    refine WK.seq ?_
    refine WK.seq ?_
    refine WK.region ?_
    refine WR.op rfl rfl rfl rfl ?_
    refine WR.op rfl rfl (r_lss rfl rfl (iltb_t (by omega))) rfl ?_
    refine WR.op rfl rfl rfl rfl ?_
    refine WR.off rfl rfl rfl rfl rfl ?_
    refine WR.off rfl rfl rfl rfl rfl ?_
    refine WR.op rfl rfl rfl rfl ?_
    refine WR.nil ?_
    refine after.seq ?_
    refine WK.cond rfl (fun _ => ?_) (fun h => (by cases h))
    refine WK.seq ?_
    refine WK.region ?_
    refine WR.call (f := 27) («as» := []) rfl (.inl rfl) rfl rfl rfl rfl ((aw_ok (by decide) (hkn (Ext.refl _))).mono ?_)
    rintro va _ ⟨rfl, rfl⟩
    refine WR.op rfl rfl rfl rfl ?_
    refine WR.nil ?_
    refine after.seq ?_
    refine WK.ret ?_
    refine after.seq_ret ?_
    exact ⟨ret_ne 0, ret_ne, [.bool true], (by rw [res7]; rfl), rfl⟩
  by_cases hb : 5000 < n
  · refine CallW.enter (hs _ _) Tryz.func7 body7 c7_of rfl ?_
    rw [nt7]
    unfold c7
    refine WK.seq ?_
    refine WK.region ?_
    refine WR.op rfl rfl rfl rfl ?_
    refine WR.nil ?_
    refine after.seq ?_
    refine WK.seq ?_
    refine WK.seq ?_
    refine WK.region ?_
    refine WR.op rfl rfl rfl rfl ?_
    refine WR.op rfl rfl (r_lss rfl rfl (iltb_f (by omega))) rfl ?_
    refine WR.op rfl rfl rfl rfl ?_
    refine WR.opG rfl rfl rfl rfl rfl ?_
    refine WR.opG rfl rfl rfl (r_gtr rfl rfl (iltb_t (by omega))) rfl ?_
    refine WR.op rfl rfl rfl rfl ?_
    refine WR.nil ?_
    refine after.seq ?_
    refine WK.cond rfl (fun _ => ?_) (fun h => (by cases h))
    refine WK.seq ?_
    refine WK.region ?_
    refine WR.call (f := 27) («as» := []) rfl (.inl rfl) rfl rfl rfl rfl ((aw_ok (by decide) (hkn (Ext.refl _))).mono ?_)
    rintro va _ ⟨rfl, rfl⟩
    refine WR.op rfl rfl rfl rfl ?_
    refine WR.nil ?_
    refine after.seq ?_
    refine WK.ret ?_
    refine after.seq_ret ?_
    exact ⟨ret_ne 0, ret_ne, [.bool true], (by rw [res7]; rfl), rfl⟩
  have hid : heldN n = n := heldN_id (by omega) (by omega)
  by_cases hB1 : n < 1
  · cases upper with
    | true =>
      have hA : (if 1 ≤ heldN n ∧ heldN n ≤ 3999 then pick romU (romP (heldN n).toNat) else decN (heldN n)) = decN n := by rw [hid, if_neg (by omega)]
      refine CallW.enter (hs _ _) Tryz.func7 body7 c7_of rfl ?_
      rw [nt7]
      unfold c7
      refine WK.seq ?_
      refine WK.region ?_
      refine WR.op rfl rfl rfl rfl ?_
      refine WR.nil ?_
      refine after.seq ?_
      refine WK.seq ?_
      refine WK.seq ?_
      refine WK.region ?_
      refine WR.op rfl rfl rfl rfl ?_
      refine WR.op rfl rfl (r_lss rfl rfl (iltb_f (by omega))) rfl ?_
      refine WR.op rfl rfl rfl rfl ?_
      refine WR.opG rfl rfl rfl rfl rfl ?_
      refine WR.opG rfl rfl rfl (r_gtr rfl rfl (iltb_f (by omega))) rfl ?_
      refine WR.op rfl rfl rfl rfl ?_
      refine WR.nil ?_
      refine after.seq ?_
      refine WK.cond rfl (fun h => (by cases h)) (fun _ => ?_)
      refine WK.skip ?_
      refine after.seq ?_
      refine WK.seq ?_
      refine WK.region ?_
      refine WR.call (f := 19) («as» := [.nils]) rfl (.inl rfl) rfl rfl rfl rfl ((new_ok (XA_dom 27) h19r (stG_pt e) (stG_nf e)).mono ?_)
      rintro v1 st1 ⟨rfl, hr1, k1⟩
      refine WR.op rfl rfl rfl rfl ?_
      refine WR.nil ?_
      refine after.seq ?_
      refine WK.seq ?_
      refine WK.seq ?_
      refine WK.region ?_
      refine WR.op rfl rfl rfl rfl ?_
      refine WR.op rfl rfl rfl rfl ?_
      refine WR.nil ?_
      refine after.seq ?_
      refine WK.cond rfl (fun h => (by cases h)) (fun _ => ?_)
      refine WK.skip ?_
      refine after.seq ?_
      refine WK.seq ?_
      refine WK.region ?_
      refine WR.op rfl rfl rfl rfl ?_
      refine WR.nil ?_
      refine after.seq ?_
      refine WK.seq ?_
      refine WK.seq ?_
      refine WK.region ?_
      refine WR.op rfl rfl rfl rfl ?_
      refine WR.nil ?_
      refine after.seq ?_
      refine WK.cond rfl (fun _ => ?_) (fun h => (by cases h))
      refine WK.region ?_
      refine WR.op rfl rfl rfl rfl ?_
      refine WR.nil ?_
      refine after.seq ?_
      refine WK.seq ?_
      refine WK.region ?_
      refine WR.op rfl rfl rfl rfl ?_
      refine WR.op rfl rfl rfl rfl ?_
      refine WR.op rfl rfl rfl rfl ?_
      refine WR.call (f := 23) («as» := [.ptr ((stG e).next + 1) 0, .str nm10, .int .i64 n]) rfl (.inl rfl) rfl rfl rfl rfl ((text_rom (XA_dom 27) h55r h70r hsr row_roU (by kernel_rfl) (by kernel_rfl) _ hr1).mono ?_)
      rw [hA]
      rintro v2 st2 ⟨rfl, k2⟩
      refine WR.op rfl rfl rfl rfl ?_
      refine WR.nil ?_
      refine after.seq ?_
      refine WK.seq ?_
      refine WK.seq ?_
      refine WK.region ?_
      refine WR.op rfl rfl rfl rfl ?_
      refine WR.op rfl rfl (r_lss rfl rfl (iltb_t (by omega))) rfl ?_
      refine WR.op rfl rfl rfl rfl ?_
      refine WR.off rfl rfl rfl rfl rfl ?_
      refine WR.off rfl rfl rfl rfl rfl ?_
      refine WR.op rfl rfl rfl rfl ?_
      refine WR.nil ?_
      refine after.seq ?_
      refine WK.cond rfl (fun _ => ?_) (fun h => (by cases h))
      refine WK.seq ?_
      refine WK.region ?_
      refine WR.op rfl rfl rfl rfl ?_
      refine WR.op rfl rfl rfl rfl ?_
      refine WR.call (f := 25) («as» := [.int .i64 n]) rfl (.inl rfl) rfl rfl rfl rfl ((dec_ok (sumK_no (XA_dom 27) (by decide)) h1 h2 _).mono ?_)
      rintro v5 st5 ⟨rfl, k5⟩
      refine WR.op rfl rfl (r_seql rfl rfl (eqL_same _)) rfl ?_
      refine WR.op rfl rfl rfl rfl ?_
      refine WR.call (f := 27) («as» := []) rfl (.inr ⟨_, _, rfl, rfl⟩) rfl rfl rfl rfl ((aw_ok (by decide) (hkn ((k1.trans k2).trans k5))).mono ?_)
      rintro va _ ⟨rfl, rfl⟩
      refine WR.op rfl rfl rfl rfl ?_
      refine WR.op rfl rfl rfl rfl ?_
      refine WR.nil ?_
      refine after.seq ?_
      refine WK.ret ?_
      refine after.seq_ret ?_
      exact ⟨ret_ne 0, ret_ne, [.bool true], (by rw [res7]; rfl), rfl⟩
    | false =>
      have hA : (if 1 ≤ heldN n ∧ heldN n ≤ 3999 then pick romL (romP (heldN n).toNat) else decN (heldN n)) = decN n := by rw [hid, if_neg (by omega)]
      refine CallW.enter (hs _ _) Tryz.func7 body7 c7_of rfl ?_
      rw [nt7]
      unfold c7
      refine WK.seq ?_
      refine WK.region ?_
      refine WR.op rfl rfl rfl rfl ?_
      refine WR.nil ?_
      refine after.seq ?_
      refine WK.seq ?_
      refine WK.seq ?_
      refine WK.region ?_
      refine WR.op rfl rfl rfl rfl ?_
      refine WR.op rfl rfl (r_lss rfl rfl (iltb_f (by omega))) rfl ?_
      refine WR.op rfl rfl rfl rfl ?_
      refine WR.opG rfl rfl rfl rfl rfl ?_
      refine WR.opG rfl rfl rfl (r_gtr rfl rfl (iltb_f (by omega))) rfl ?_
      refine WR.op rfl rfl rfl rfl ?_
      refine WR.nil ?_
      refine after.seq ?_
      refine WK.cond rfl (fun h => (by cases h)) (fun _ => ?_)
      refine WK.skip ?_
      refine after.seq ?_
      refine WK.seq ?_
      refine WK.region ?_
      refine WR.call (f := 19) («as» := [.nils]) rfl (.inl rfl) rfl rfl rfl rfl ((new_ok (XA_dom 27) h19r (stG_pt e) (stG_nf e)).mono ?_)
      rintro v1 st1 ⟨rfl, hr1, k1⟩
      refine WR.op rfl rfl rfl rfl ?_
      refine WR.nil ?_
      refine after.seq ?_
      refine WK.seq ?_
      refine WK.seq ?_
      refine WK.region ?_
      refine WR.op rfl rfl rfl rfl ?_
      refine WR.op rfl rfl rfl rfl ?_
      refine WR.nil ?_
      refine after.seq ?_
      refine WK.cond rfl (fun h => (by cases h)) (fun _ => ?_)
      refine WK.skip ?_
      refine after.seq ?_
      refine WK.seq ?_
      refine WK.region ?_
      refine WR.op rfl rfl rfl rfl ?_
      refine WR.nil ?_
      refine after.seq ?_
      refine WK.seq ?_
      refine WK.seq ?_
      refine WK.region ?_
      refine WR.op rfl rfl rfl rfl ?_
      refine WR.nil ?_
      refine after.seq ?_
      refine WK.cond rfl (fun h => (by cases h)) (fun _ => ?_)
      refine WK.skip ?_
      refine after.seq ?_
      refine WK.seq ?_
      refine WK.region ?_
      refine WR.op rfl rfl rfl rfl ?_
      refine WR.op rfl rfl rfl rfl ?_
      refine WR.op rfl rfl rfl rfl ?_
      refine WR.call (f := 23) («as» := [.ptr ((stG e).next + 1) 0, .str nm4, .int .i64 n]) rfl (.inl rfl) rfl rfl rfl rfl ((text_rom (XA_dom 27) h55r h70r hsr row_rol (by kernel_rfl) (by kernel_rfl) _ hr1).mono ?_)
      rw [hA]
      rintro v2 st2 ⟨rfl, k2⟩
      refine WR.op rfl rfl rfl rfl ?_
      refine WR.nil ?_
      refine after.seq ?_
      refine WK.seq ?_
      refine WK.seq ?_
      refine WK.region ?_
      refine WR.op rfl rfl rfl rfl ?_
      refine WR.op rfl rfl (r_lss rfl rfl (iltb_t (by omega))) rfl ?_
      refine WR.op rfl rfl rfl rfl ?_
      refine WR.off rfl rfl rfl rfl rfl ?_
      refine WR.off rfl rfl rfl rfl rfl ?_
      refine WR.op rfl rfl rfl rfl ?_
      refine WR.nil ?_
      refine after.seq ?_
      refine WK.cond rfl (fun _ => ?_) (fun h => (by cases h))
      refine WK.seq ?_
      refine WK.region ?_
      refine WR.op rfl rfl rfl rfl ?_
      refine WR.op rfl rfl rfl rfl ?_
      refine WR.call (f := 25) («as» := [.int .i64 n]) rfl (.inl rfl) rfl rfl rfl rfl ((dec_ok (sumK_no (XA_dom 27) (by decide)) h1 h2 _).mono ?_)
      rintro v5 st5 ⟨rfl, k5⟩
      refine WR.op rfl rfl (r_seql rfl rfl (eqL_same _)) rfl ?_
      refine WR.op rfl rfl rfl rfl ?_
      refine WR.call (f := 27) («as» := []) rfl (.inr ⟨_, _, rfl, rfl⟩) rfl rfl rfl rfl ((aw_ok (by decide) (hkn ((k1.trans k2).trans k5))).mono ?_)
      rintro va _ ⟨rfl, rfl⟩
      refine WR.op rfl rfl rfl rfl ?_
      refine WR.op rfl rfl rfl rfl ?_
      refine WR.nil ?_
      refine after.seq ?_
      refine WK.ret ?_
      refine after.seq_ret ?_
      exact ⟨ret_ne 0, ret_ne, [.bool true], (by rw [res7]; rfl), rfl⟩
  by_cases hB2 : 3999 < n
  · cases upper with
    | true =>
      have hA : (if 1 ≤ heldN n ∧ heldN n ≤ 3999 then pick romU (romP (heldN n).toNat) else decN (heldN n)) = decN n := by rw [hid, if_neg (by omega)]
      refine CallW.enter (hs _ _) Tryz.func7 body7 c7_of rfl ?_
      rw [nt7]
      unfold c7
      refine WK.seq ?_
      refine WK.region ?_
      refine WR.op rfl rfl rfl rfl ?_
      refine WR.nil ?_
      refine after.seq ?_
      refine WK.seq ?_
      refine WK.seq ?_
      refine WK.region ?_
      refine WR.op rfl rfl rfl rfl ?_
      refine WR.op rfl rfl (r_lss rfl rfl (iltb_f (by omega))) rfl ?_
      refine WR.op rfl rfl rfl rfl ?_
      refine WR.opG rfl rfl rfl rfl rfl ?_
      refine WR.opG rfl rfl rfl (r_gtr rfl rfl (iltb_f (by omega))) rfl ?_
      refine WR.op rfl rfl rfl rfl ?_
      refine WR.nil ?_
      refine after.seq ?_
      refine WK.cond rfl (fun h => (by cases h)) (fun _ => ?_)
      refine WK.skip ?_
      refine after.seq ?_
      refine WK.seq ?_
      refine WK.region ?_
      refine WR.call (f := 19) («as» := [.nils]) rfl (.inl rfl) rfl rfl rfl rfl ((new_ok (XA_dom 27) h19r (stG_pt e) (stG_nf e)).mono ?_)
      rintro v1 st1 ⟨rfl, hr1, k1⟩
      refine WR.op rfl rfl rfl rfl ?_
      refine WR.nil ?_
      refine after.seq ?_
      refine WK.seq ?_
      refine WK.seq ?_
      refine WK.region ?_
      refine WR.op rfl rfl rfl rfl ?_
      refine WR.op rfl rfl rfl rfl ?_
      refine WR.nil ?_
      refine after.seq ?_
      refine WK.cond rfl (fun h => (by cases h)) (fun _ => ?_)
      refine WK.skip ?_
      refine after.seq ?_
      refine WK.seq ?_
      refine WK.region ?_
      refine WR.op rfl rfl rfl rfl ?_
      refine WR.nil ?_
      refine after.seq ?_
      refine WK.seq ?_
      refine WK.seq ?_
      refine WK.region ?_
      refine WR.op rfl rfl rfl rfl ?_
      refine WR.nil ?_
      refine after.seq ?_
      refine WK.cond rfl (fun _ => ?_) (fun h => (by cases h))
      refine WK.region ?_
      refine WR.op rfl rfl rfl rfl ?_
      refine WR.nil ?_
      refine after.seq ?_
      refine WK.seq ?_
      refine WK.region ?_
      refine WR.op rfl rfl rfl rfl ?_
      refine WR.op rfl rfl rfl rfl ?_
      refine WR.op rfl rfl rfl rfl ?_
      refine WR.call (f := 23) («as» := [.ptr ((stG e).next + 1) 0, .str nm10, .int .i64 n]) rfl (.inl rfl) rfl rfl rfl rfl ((text_rom (XA_dom 27) h55r h70r hsr row_roU (by kernel_rfl) (by kernel_rfl) _ hr1).mono ?_)
      rw [hA]
      rintro v2 st2 ⟨rfl, k2⟩
      refine WR.op rfl rfl rfl rfl ?_
      refine WR.nil ?_
      refine after.seq ?_
      refine WK.seq ?_
      refine WK.seq ?_
      refine WK.region ?_
      refine WR.op rfl rfl rfl rfl ?_
      refine WR.op rfl rfl (r_lss rfl rfl (iltb_f (by omega))) rfl ?_
      refine WR.op rfl rfl rfl rfl ?_
      refine WR.opG rfl rfl rfl rfl rfl ?_
      refine WR.opG rfl rfl rfl (r_gtr rfl rfl (iltb_t (by omega))) rfl ?_
      refine WR.op rfl rfl rfl rfl ?_
      refine WR.nil ?_
      refine after.seq ?_
      refine WK.cond rfl (fun _ => ?_) (fun h => (by cases h))
      refine WK.seq ?_
      refine WK.region ?_
      refine WR.op rfl rfl rfl rfl ?_
      refine WR.op rfl rfl rfl rfl ?_
      refine WR.call (f := 25) («as» := [.int .i64 n]) rfl (.inl rfl) rfl rfl rfl rfl ((dec_ok (sumK_no (XA_dom 27) (by decide)) h1 h2 _).mono ?_)
      rintro v5 st5 ⟨rfl, k5⟩
      refine WR.op rfl rfl (r_seql rfl rfl (eqL_same _)) rfl ?_
      refine WR.op rfl rfl rfl rfl ?_
      refine WR.call (f := 27) («as» := []) rfl (.inr ⟨_, _, rfl, rfl⟩) rfl rfl rfl rfl ((aw_ok (by decide) (hkn ((k1.trans k2).trans k5))).mono ?_)
      rintro va _ ⟨rfl, rfl⟩
      refine WR.op rfl rfl rfl rfl ?_
      refine WR.op rfl rfl rfl rfl ?_
      refine WR.nil ?_
      refine after.seq ?_
      refine WK.ret ?_
      refine after.seq_ret ?_
      exact ⟨ret_ne 0, ret_ne, [.bool true], (by rw [res7]; rfl), rfl⟩
    | false =>
      have hA : (if 1 ≤ heldN n ∧ heldN n ≤ 3999 then pick romL (romP (heldN n).toNat) else decN (heldN n)) = decN n := by rw [hid, if_neg (by omega)]
      refine CallW.enter (hs _ _) Tryz.func7 body7 c7_of rfl ?_
      rw [nt7]
      unfold c7
      refine WK.seq ?_
      refine WK.region ?_
      refine WR.op rfl rfl rfl rfl ?_
      refine WR.nil ?_
      refine after.seq ?_
      refine WK.seq ?_
      refine WK.seq ?_
      refine WK.region ?_
      refine WR.op rfl rfl rfl rfl ?_
      refine WR.op rfl rfl (r_lss rfl rfl (iltb_f (by omega))) rfl ?_
      refine WR.op rfl rfl rfl rfl ?_
      refine WR.opG rfl rfl rfl rfl rfl ?_
      refine WR.opG rfl rfl rfl (r_gtr rfl rfl (iltb_f (by omega))) rfl ?_
      refine WR.op rfl rfl rfl rfl ?_
      refine WR.nil ?_
      refine after.seq ?_
      refine WK.cond rfl (fun h => (by cases h)) (fun _ => ?_)
      refine WK.skip ?_
      refine after.seq ?_
      refine WK.seq ?_
      refine WK.region ?_
      refine WR.call (f := 19) («as» := [.nils]) rfl (.inl rfl) rfl rfl rfl rfl ((new_ok (XA_dom 27) h19r (stG_pt e) (stG_nf e)).mono ?_)
      rintro v1 st1 ⟨rfl, hr1, k1⟩
      refine WR.op rfl rfl rfl rfl ?_
      refine WR.nil ?_
      refine after.seq ?_
      refine WK.seq ?_
      refine WK.seq ?_
      refine WK.region ?_
      refine WR.op rfl rfl rfl rfl ?_
      refine WR.op rfl rfl rfl rfl ?_
      refine WR.nil ?_
      refine after.seq ?_
      refine WK.cond rfl (fun h => (by cases h)) (fun _ => ?_)
      refine WK.skip ?_
      refine after.seq ?_
      refine WK.seq ?_
      refine WK.region ?_
      refine WR.op rfl rfl rfl rfl ?_
      refine WR.nil ?_
      refine after.seq ?_
      refine WK.seq ?_
      refine WK.seq ?_
      refine WK.region ?_
      refine WR.op rfl rfl rfl rfl ?_
      refine WR.nil ?_
      refine after.seq ?_
      refine WK.cond rfl (fun h => (by cases h)) (fun _ => ?_)
      refine WK.skip ?_
      refine after.seq ?_
      refine WK.seq ?_
      refine WK.region ?_
      refine WR.op rfl rfl rfl rfl ?_
      refine WR.op rfl rfl rfl rfl ?_
      refine WR.op rfl rfl rfl rfl ?_
      refine WR.call (f := 23) («as» := [.ptr ((stG e).next + 1) 0, .str nm4, .int .i64 n]) rfl (.inl rfl) rfl rfl rfl rfl ((text_rom (XA_dom 27) h55r h70r hsr row_rol (by kernel_rfl) (by kernel_rfl) _ hr1).mono ?_)
      rw [hA]
      rintro v2 st2 ⟨rfl, k2⟩
      refine WR.op rfl rfl rfl rfl ?_
      refine WR.nil ?_
      refine after.seq ?_
      refine WK.seq ?_
      refine WK.seq ?_
      refine WK.region ?_
      refine WR.op rfl rfl rfl rfl ?_
      refine WR.op rfl rfl (r_lss rfl rfl (iltb_f (by omega))) rfl ?_
      refine WR.op rfl rfl rfl rfl ?_
      refine WR.opG rfl rfl rfl rfl rfl ?_
      refine WR.opG rfl rfl rfl (r_gtr rfl rfl (iltb_t (by omega))) rfl ?_
      refine WR.op rfl rfl rfl rfl ?_
      refine WR.nil ?_
      refine after.seq ?_
      refine WK.cond rfl (fun _ => ?_) (fun h => (by cases h))
      refine WK.seq ?_
      refine WK.region ?_
      refine WR.op rfl rfl rfl rfl ?_
      refine WR.op rfl rfl rfl rfl ?_
      refine WR.call (f := 25) («as» := [.int .i64 n]) rfl (.inl rfl) rfl rfl rfl rfl ((dec_ok (sumK_no (XA_dom 27) (by decide)) h1 h2 _).mono ?_)
      rintro v5 st5 ⟨rfl, k5⟩
      refine WR.op rfl rfl (r_seql rfl rfl (eqL_same _)) rfl ?_
      refine WR.op rfl rfl rfl rfl ?_
      refine WR.call (f := 27) («as» := []) rfl (.inr ⟨_, _, rfl, rfl⟩) rfl rfl rfl rfl ((aw_ok (by decide) (hkn ((k1.trans k2).trans k5))).mono ?_)
      rintro va _ ⟨rfl, rfl⟩
      refine WR.op rfl rfl rfl rfl ?_
      refine WR.op rfl rfl rfl rfl ?_
      refine WR.nil ?_
      refine after.seq ?_
      refine WK.ret ?_
      refine after.seq_ret ?_
      exact ⟨ret_ne 0, ret_ne, [.bool true], (by rw [res7]; rfl), rfl⟩
  have hN1 : 1 ≤ n.toNat := by omega
  have hN2 : n.toNat ≤ 3999 := by omega
  have hl60 := (rom_sum hN1 hN2).2.1
  cases upper with
  | true =>
    obtain ⟨s, hse⟩ : ∃ s, s = pick romU (romP n.toNat) := ⟨_, rfl⟩
    have hA : (if 1 ≤ heldN n ∧ heldN n ≤ 3999 then pick romU (romP (heldN n).toNat) else decN (heldN n)) = s := by rw [hid, if_pos (by omega), hse]
    obtain ⟨hcl, hsg⟩ := rom_signs true hN1 hN2
    rw [if_pos rfl, ← hse] at hcl
    rw [if_pos rfl, ← hse] at hsg
    have hval : rvTo (romCs n.toNat) s.length 0 0 = n := by
      rw [hcl, (rom_law hN1 hN2).1]; omega
    have hsl : s.length < 1000000 := by
      have h3 := pick_len (syms := romU) (by decide) (romP n.toNat).reverse
      rw [hse]
      unfold romP at h3 ⊢
      unfold pick
      rw [List.length_reverse, List.length_reverse] at h3
      omega
    refine CallW.enter (hs _ _) Tryz.func7 body7 c7_of rfl ?_
    rw [nt7]
    unfold c7
    refine WK.seq ?_
    refine WK.region ?_
    refine WR.op rfl rfl rfl rfl ?_
    refine WR.nil ?_
    refine after.seq ?_
    refine WK.seq ?_
    refine WK.seq ?_
    refine WK.region ?_
    refine WR.op rfl rfl rfl rfl ?_
    refine WR.op rfl rfl (r_lss rfl rfl (iltb_f (by omega))) rfl ?_
    refine WR.op rfl rfl rfl rfl ?_
    refine WR.opG rfl rfl rfl rfl rfl ?_
    refine WR.opG rfl rfl rfl (r_gtr rfl rfl (iltb_f (by omega))) rfl ?_
    refine WR.op rfl rfl rfl rfl ?_
    refine WR.nil ?_
    refine after.seq ?_
    refine WK.cond rfl (fun h => (by cases h)) (fun _ => ?_)
    refine WK.skip ?_
    refine after.seq ?_
    refine WK.seq ?_
    refine WK.region ?_
    refine WR.call (f := 19) («as» := [.nils]) rfl (.inl rfl) rfl rfl rfl rfl ((new_ok (XA_dom 27) h19r (stG_pt e) (stG_nf e)).mono ?_)
    rintro v1 st1 ⟨rfl, hr1, k1⟩
    refine WR.op rfl rfl rfl rfl ?_
    refine WR.nil ?_
    refine after.seq ?_
    refine WK.seq ?_
    refine WK.seq ?_
    refine WK.region ?_
    refine WR.op rfl rfl rfl rfl ?_
    refine WR.op rfl rfl rfl rfl ?_
    refine WR.nil ?_
    refine after.seq ?_
    refine WK.cond rfl (fun h => (by cases h)) (fun _ => ?_)
    refine WK.skip ?_
    refine after.seq ?_
    refine WK.seq ?_
    refine WK.region ?_
    refine WR.op rfl rfl rfl rfl ?_
    refine WR.nil ?_
    refine after.seq ?_
    refine WK.seq ?_
    refine WK.seq ?_
    refine WK.region ?_
    refine WR.op rfl rfl rfl rfl ?_
    refine WR.nil ?_
    refine after.seq ?_
    refine WK.cond rfl (fun _ => ?_) (fun h => (by cases h))
    refine WK.region ?_
    refine WR.op rfl rfl rfl rfl ?_
    refine WR.nil ?_
    refine after.seq ?_
    refine WK.seq ?_
    refine WK.region ?_
    refine WR.op rfl rfl rfl rfl ?_
    refine WR.op rfl rfl rfl rfl ?_
    refine WR.op rfl rfl rfl rfl ?_
    refine WR.call (f := 23) («as» := [.ptr ((stG e).next + 1) 0, .str nm10, .int .i64 n]) rfl (.inl rfl) rfl rfl rfl rfl ((text_rom (XA_dom 27) h55r h70r hsr row_roU (by kernel_rfl) (by kernel_rfl) _ hr1).mono ?_)
    rw [hA]
    rintro v2 st2 ⟨rfl, k2⟩
    refine WR.op rfl rfl rfl rfl ?_
    refine WR.nil ?_
    refine after.seq ?_
    refine WK.seq ?_
    refine WK.seq ?_
    refine WK.region ?_
    refine WR.op rfl rfl rfl rfl ?_
    refine WR.op rfl rfl (r_lss rfl rfl (iltb_f (by omega))) rfl ?_
    refine WR.op rfl rfl rfl rfl ?_
    refine WR.opG rfl rfl rfl rfl rfl ?_
    refine WR.opG rfl rfl rfl (r_gtr rfl rfl (iltb_f (by omega))) rfl ?_
    refine WR.op rfl rfl rfl rfl ?_
    refine WR.nil ?_
    refine after.seq ?_
    refine WK.cond rfl (fun h => (by cases h)) (fun _ => ?_)
    refine WK.skip ?_
    refine after.seq ?_
    refine WK.seq ?_
    refine WK.region ?_
    refine WR.op rfl rfl rfl rfl ?_
    refine WR.op rfl rfl rfl rfl ?_
    refine WR.nil ?_
    refine after.seq ?_
    refine WK.seq ?_
    refine WK.seq ?_
    refine WK.region ?_
    refine WR.op rfl rfl rfl rfl ?_
    refine WR.op rfl rfl (r_len_str Tryz.underlying9 rfl) rfl ?_
    refine WR.op rfl rfl (r_arith ⟨by decide, by decide⟩ rfl rfl (sub_int (b := 1) (by omega) (by omega))) rfl ?_
    refine WR.op rfl rfl rfl rfl ?_
    refine WR.nil ?_
    refine after.seq ?_
    refine WK.block ?_
    refine rom_out (n := n) (N := n) (up := true) (s := s) (cs := romCs n.toNat) hsl hsg (st0 := st2) s.length (Nat.le_refl _) 0 0 _ (by omega) (by omega) hval (Ext.refl _) _ rfl rfl rfl rfl rfl rfl fun env3 st3 k3 e1 e2 => ?_
    refine after.seq ?_
    refine WK.sub [(0, .int .i64 n), (8, .int .i64 n)] ?_ ?_
    · intro t v ht
      simp only [lookE_cons] at ht
      by_cases e0 : t = 0
      · rw [if_pos e0] at ht; subst e0; rw [e1]; exact ht
      rw [if_neg e0] at ht
      by_cases e8 : t = 8
      · rw [if_pos e8] at ht; subst e8; rw [e2]; exact ht
      rw [if_neg e8] at ht
      cases ht
    refine WK.seq ?_
    refine WK.region ?_
    refine WR.op rfl rfl rfl rfl ?_
    refine WR.op rfl rfl rfl rfl ?_
    refine WR.op rfl rfl (r_eql rfl rfl (ieqb_self _)) rfl ?_
    refine WR.op rfl rfl rfl rfl ?_
    refine WR.call (f := 27) («as» := []) rfl (.inr ⟨_, _, rfl, rfl⟩) rfl rfl rfl rfl ((aw_ok (by decide) (hkn ((k1.trans k2).trans k3))).mono ?_)
    rintro va _ ⟨rfl, rfl⟩
    refine WR.op rfl rfl rfl rfl ?_
    refine WR.op rfl rfl rfl rfl ?_
    refine WR.nil ?_
    refine after.seq ?_
    refine WK.ret ?_
    exact ⟨ret_ne 0, ret_ne, [.bool true], (by rw [res7]; rfl), rfl⟩
  | false =>
    obtain ⟨s, hse⟩ : ∃ s, s = pick romL (romP n.toNat) := ⟨_, rfl⟩
    have hA : (if 1 ≤ heldN n ∧ heldN n ≤ 3999 then pick romL (romP (heldN n).toNat) else decN (heldN n)) = s := by rw [hid, if_pos (by omega), hse]
    obtain ⟨hcl, hsg⟩ := rom_signs false hN1 hN2
    rw [if_neg (by decide), ← hse] at hcl
    rw [if_neg (by decide), ← hse] at hsg
    have hval : rvTo (romCs n.toNat) s.length 0 0 = n := by
      rw [hcl, (rom_law hN1 hN2).1]; omega
    have hsl : s.length < 1000000 := by
      have h3 := pick_len (syms := romL) (by decide) (romP n.toNat).reverse
      rw [hse]
      unfold romP at h3 ⊢
      unfold pick
      rw [List.length_reverse, List.length_reverse] at h3
      omega
    refine CallW.enter (hs _ _) Tryz.func7 body7 c7_of rfl ?_
    rw [nt7]
    unfold c7
    refine WK.seq ?_
    refine WK.region ?_
    refine WR.op rfl rfl rfl rfl ?_
    refine WR.nil ?_
    refine after.seq ?_
    refine WK.seq ?_
    refine WK.seq ?_
    refine WK.region ?_
    refine WR.op rfl rfl rfl rfl ?_
    refine WR.op rfl rfl (r_lss rfl rfl (iltb_f (by omega))) rfl ?_
    refine WR.op rfl rfl rfl rfl ?_
    refine WR.opG rfl rfl rfl rfl rfl ?_
    refine WR.opG rfl rfl rfl (r_gtr rfl rfl (iltb_f (by omega))) rfl ?_
    refine WR.op rfl rfl rfl rfl ?_
    refine WR.nil ?_
    refine after.seq ?_
    refine WK.cond rfl (fun h => (by cases h)) (fun _ => ?_)
    refine WK.skip ?_
    refine after.seq ?_
    refine WK.seq ?_
    refine WK.region ?_
    refine WR.call (f := 19) («as» := [.nils]) rfl (.inl rfl) rfl rfl rfl rfl ((new_ok (XA_dom 27) h19r (stG_pt e) (stG_nf e)).mono ?_)
    rintro v1 st1 ⟨rfl, hr1, k1⟩
    refine WR.op rfl rfl rfl rfl ?_
    refine WR.nil ?_
    refine after.seq ?_
    refine WK.seq ?_
    refine WK.seq ?_
    refine WK.region ?_
    refine WR.op rfl rfl rfl rfl ?_
    refine WR.op rfl rfl rfl rfl ?_
    refine WR.nil ?_
    refine after.seq ?_
    refine WK.cond rfl (fun h => (by cases h)) (fun _ => ?_)
    refine WK.skip ?_
    refine after.seq ?_
    refine WK.seq ?_
    refine WK.region ?_
    refine WR.op rfl rfl rfl rfl ?_
    refine WR.nil ?_
    refine after.seq ?_
    refine WK.seq ?_
    refine WK.seq ?_
    refine WK.region ?_
    refine WR.op rfl rfl rfl rfl ?_
    refine WR.nil ?_
    refine after.seq ?_
    refine WK.cond rfl (fun h => (by cases h)) (fun _ => ?_)
    refine WK.skip ?_
    refine after.seq ?_
    refine WK.seq ?_
    refine WK.region ?_
    refine WR.op rfl rfl rfl rfl ?_
    refine WR.op rfl rfl rfl rfl ?_
    refine WR.op rfl rfl rfl rfl ?_
    refine WR.call (f := 23) («as» := [.ptr ((stG e).next + 1) 0, .str nm4, .int .i64 n]) rfl (.inl rfl) rfl rfl rfl rfl ((text_rom (XA_dom 27) h55r h70r hsr row_rol (by kernel_rfl) (by kernel_rfl) _ hr1).mono ?_)
    rw [hA]
    rintro v2 st2 ⟨rfl, k2⟩
    refine WR.op rfl rfl rfl rfl ?_
    refine WR.nil ?_
    refine after.seq ?_
    refine WK.seq ?_
    refine WK.seq ?_
    refine WK.region ?_
    refine WR.op rfl rfl rfl rfl ?_
    refine WR.op rfl rfl (r_lss rfl rfl (iltb_f (by omega))) rfl ?_
    refine WR.op rfl rfl rfl rfl ?_
    refine WR.opG rfl rfl rfl rfl rfl ?_
    refine WR.opG rfl rfl rfl (r_gtr rfl rfl (iltb_f (by omega))) rfl ?_
    refine WR.op rfl rfl rfl rfl ?_
    refine WR.nil ?_
    refine after.seq ?_
    refine WK.cond rfl (fun h => (by cases h)) (fun _ => ?_)
    refine WK.skip ?_
    refine after.seq ?_
    refine WK.seq ?_
    refine WK.region ?_
    refine WR.op rfl rfl rfl rfl ?_
    refine WR.op rfl rfl rfl rfl ?_
    refine WR.nil ?_
    refine after.seq ?_
    refine WK.seq ?_
    refine WK.seq ?_
    refine WK.region ?_
    refine WR.op rfl rfl rfl rfl ?_
    refine WR.op rfl rfl (r_len_str Tryz.underlying9 rfl) rfl ?_
    refine WR.op rfl rfl (r_arith ⟨by decide, by decide⟩ rfl rfl (sub_int (b := 1) (by omega) (by omega))) rfl ?_
    refine WR.op rfl rfl rfl rfl ?_
    refine WR.nil ?_
    refine after.seq ?_
    refine WK.block ?_
    refine rom_out (n := n) (N := n) (up := false) (s := s) (cs := romCs n.toNat) hsl hsg (st0 := st2) s.length (Nat.le_refl _) 0 0 _ (by omega) (by omega) hval (Ext.refl _) _ rfl rfl rfl rfl rfl rfl fun env3 st3 k3 e1 e2 => ?_
    refine after.seq ?_
    refine WK.sub [(0, .int .i64 n), (8, .int .i64 n)] ?_ ?_
    · intro t v ht
      simp only [lookE_cons] at ht
      by_cases e0 : t = 0
      · rw [if_pos e0] at ht; subst e0; rw [e1]; exact ht
      rw [if_neg e0] at ht
      by_cases e8 : t = 8
      · rw [if_pos e8] at ht; subst e8; rw [e2]; exact ht
      rw [if_neg e8] at ht
      cases ht
    refine WK.seq ?_
    refine WK.region ?_
    refine WR.op rfl rfl rfl rfl ?_
    refine WR.op rfl rfl rfl rfl ?_
    refine WR.op rfl rfl (r_eql rfl rfl (ieqb_self _)) rfl ?_
    refine WR.op rfl rfl rfl rfl ?_
    refine WR.call (f := 27) («as» := []) rfl (.inr ⟨_, _, rfl, rfl⟩) rfl rfl rfl rfl ((aw_ok (by decide) (hkn ((k1.trans k2).trans k3))).mono ?_)
    rintro va _ ⟨rfl, rfl⟩
    refine WR.op rfl rfl rfl rfl ?_
    refine WR.op rfl rfl rfl rfl ?_
    refine WR.nil ?_
    refine after.seq ?_
    refine WK.ret ?_
    exact ⟨ret_ne 0, ret_ne, [.bool true], (by rw [res7]; rfl), rfl⟩
end Go.Proofs.Tz
