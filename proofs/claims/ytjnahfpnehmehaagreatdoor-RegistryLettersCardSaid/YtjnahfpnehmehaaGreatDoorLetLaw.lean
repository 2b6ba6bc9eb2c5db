/- RegistryLetters: the law is true. -/
import Derived.Test.YtjnahfpnehmehaaGreatDoorLetLoops
namespace Go.Proofs.Tz
open Go Go.AE Go.RowKit Go.Proofs
set_option maxRecDepth 100000
theorem h55a : (55 : FuncId) ∉ [(27 : FuncId)] := by decide
theorem h70a : (70 : FuncId) ∉ [(27 : FuncId)] := by decide
theorem h19a : (19 : FuncId) ∉ [(27 : FuncId)] := by decide
theorem hsw : ∀ f ∈ walked, ∀ xs st, sumK (XA 27) f xs st = none := sumK_nos (XA_dom 27) (by decide)
theorem low_str {N : Nat} : pick lowS (digs false 26 N) = (digs false 26 N).reverse.map (letB 97) := pick_let low_get _ fun p hp => digs_lt false (by decide) p (List.mem_reverse.1 hp)
theorem upp_str {N : Nat} : pick uppS (digs false 26 N) = (digs false 26 N).reverse.map (letB 65) := pick_let upp_get _ fun p hp => digs_lt false (by decide) p (List.mem_reverse.1 hp)
theorem let_true (n : Int) (upper : Bool) (h1 : -9223372036854775808 ≤ n) (h2 : n ≤ 9223372036854775807) (e : TypeId) : CallW (CS (sumK (XA 27))) 13 [.int .i64 n, .bool upper] (stG e) fun v _ => v = .bool true := by
  have hs : ∀ xs st, sumK (XA 27) 13 xs st = none := sumK_no (XA_dom 27) (by decide)
  have hkn : ∀ {st : St}, Ext (stG e) st → KnowsG st := fun h => (stG_knows e).ext h (Nat.le_refl 64)
  by_cases ha : n < -100
  · refine CallW.enter (hs _ _) Tryz.func13 body13 c13_of rfl ?_
    rw [nt13]
    unfold c13
    refine WK.seq ?_
    refine WK.region ?_
    refine WR.op rfl rfl rfl rfl ?_
    refine WR.nil ?_
    refine after.seq ?_
    refine WK.seq ?_
    refine WK.seq ?_
    refine WK.region ?_
    refine WR.op rfl rfl rfl rfl ?_
    refine WR.op rfl rfl (r_lss rfl rfl (iltb_t (by omega))) rfl ?_
    refine WR.op rfl rfl rfl rfl ?_
    refine WR.off rfl rfl rfl rfl rfl ?_
    refine WR.off rfl rfl rfl rfl rfl ?_
    refine WR.op rfl rfl rfl rfl ?_
    refine WR.nil ?_
    refine after.seq ?_
    refine WK.cond rfl (fun _ => ?_) (fun h => (by cases h))
    refine WK.seq ?_
    refine WK.region ?_
    refine WR.call (f := 27) («as» := []) rfl (.inl rfl) rfl rfl rfl rfl ((aw_ok (by decide) (hkn (Ext.refl _))).mono ?_)
    rintro va _ ⟨rfl, rfl⟩
    refine WR.op rfl rfl rfl rfl ?_
    refine WR.nil ?_
    refine after.seq ?_
    refine WK.ret ?_
    refine after.seq_ret ?_
    exact ⟨ret_ne 0, ret_ne, [.bool true], (by rw [res13]; rfl), rfl⟩
  by_cases hb : 2147483647 < n
  · refine CallW.enter (hs _ _) Tryz.func13 body13 c13_of rfl ?_
    rw [nt13]
    unfold c13
    refine WK.seq ?_
    refine WK.region ?_
    refine WR.op rfl rfl rfl rfl ?_
    refine WR.nil ?_
    refine after.seq ?_
    refine WK.seq ?_
    refine WK.seq ?_
    refine WK.region ?_
    refine WR.op rfl rfl rfl rfl ?_
    refine WR.op rfl rfl (r_lss rfl rfl (iltb_f (by omega))) rfl ?_
    refine WR.op rfl rfl rfl rfl ?_
    refine WR.opG rfl rfl rfl rfl rfl ?_
    refine WR.opG rfl rfl rfl (r_gtr rfl rfl (iltb_t (by omega))) rfl ?_
    refine WR.op rfl rfl rfl rfl ?_
    refine WR.nil ?_
    refine after.seq ?_
    refine WK.cond rfl (fun _ => ?_) (fun h => (by cases h))
    refine WK.seq ?_
    refine WK.region ?_
    refine WR.call (f := 27) («as» := []) rfl (.inl rfl) rfl rfl rfl rfl ((aw_ok (by decide) (hkn (Ext.refl _))).mono ?_)
    rintro va _ ⟨rfl, rfl⟩
    refine WR.op rfl rfl rfl rfl ?_
    refine WR.nil ?_
    refine after.seq ?_
    refine WK.ret ?_
    refine after.seq_ret ?_
    exact ⟨ret_ne 0, ret_ne, [.bool true], (by rw [res13]; rfl), rfl⟩
  by_cases hc : n < 1
  · have hid : heldN n = n := heldN_id (by omega) (by omega)
    have hG : (if 1 ≤ heldN n then pick grkS (digs false 24 (heldN n).toNat) else decN (heldN n)) = decN n := by rw [hid, if_neg (by omega)]
    cases upper with
    | true =>
      have hA : (if 1 ≤ heldN n then pick uppS (digs false 26 (heldN n).toNat) else decN (heldN n)) = decN n := by rw [hid, if_neg (by omega)]
      refine CallW.enter (hs _ _) Tryz.func13 body13 c13_of rfl ?_
      rw [nt13]
      unfold c13
      refine WK.seq ?_
      refine WK.region ?_
      refine WR.op rfl rfl rfl rfl ?_
      refine WR.nil ?_
      refine after.seq ?_
      refine WK.seq ?_
      refine WK.seq ?_
      refine WK.region ?_
      refine WR.op rfl rfl rfl rfl ?_
      refine WR.op rfl rfl (r_lss rfl rfl (iltb_f (by omega))) rfl ?_
      refine WR.op rfl rfl rfl rfl ?_
      refine WR.opG rfl rfl rfl rfl rfl ?_
      refine WR.opG rfl rfl rfl (r_gtr rfl rfl (iltb_f (by omega))) rfl ?_
      refine WR.op rfl rfl rfl rfl ?_
      refine WR.nil ?_
      refine after.seq ?_
      refine WK.cond rfl (fun h => (by cases h)) (fun _ => ?_)
      refine WK.skip ?_
      refine after.seq ?_
      refine WK.seq ?_
      refine WK.region ?_
      refine WR.call (f := 19) («as» := [.nils]) rfl (.inl rfl) rfl rfl rfl rfl ((new_ok (XA_dom 27) h19a (stG_pt e) (stG_nf e)).mono ?_)
      rintro v1 st1 ⟨rfl, hr1, k1⟩
      refine WR.op rfl rfl rfl rfl ?_
      refine WR.nil ?_
      refine after.seq ?_
      refine WK.seq ?_
      refine WK.seq ?_
      refine WK.region ?_
      refine WR.op rfl rfl rfl rfl ?_
      refine WR.op rfl rfl rfl rfl ?_
      refine WR.nil ?_
      refine after.seq ?_
      refine WK.cond rfl (fun h => (by cases h)) (fun _ => ?_)
      refine WK.skip ?_
      refine after.seq ?_
      refine WK.seq ?_
      refine WK.region ?_
      refine WR.op rfl rfl rfl rfl ?_
      refine WR.op rfl rfl rfl rfl ?_
      refine WR.nil ?_
      refine after.seq ?_
      refine WK.seq ?_
      refine WK.seq ?_
      refine WK.region ?_
      refine WR.op rfl rfl rfl rfl ?_
      refine WR.nil ?_
      refine after.seq ?_
      refine WK.cond rfl (fun _ => ?_) (fun h => (by cases h))
      refine WK.region ?_
      refine WR.op rfl rfl rfl rfl ?_
      refine WR.op rfl rfl rfl rfl ?_
      refine WR.nil ?_
      refine after.seq ?_
      refine WK.seq ?_
      refine WK.region ?_
      refine WR.op rfl rfl rfl rfl ?_
      refine WR.op rfl rfl rfl rfl ?_
      refine WR.op rfl rfl rfl rfl ?_
      refine WR.call (f := 23) («as» := [.ptr ((stG e).next + 1) 0, .str nm3, .int .i64 n]) rfl (.inl rfl) rfl rfl rfl rfl ((text_upp (XA_dom 27) h55a h70a hsw _ hr1).mono ?_)
      rw [hA]
      rintro v2 st2 ⟨rfl, k2⟩
      refine WR.op rfl rfl rfl rfl ?_
      refine WR.nil ?_
      refine after.seq ?_
      refine WK.seq ?_
      refine WK.region ?_
      refine WR.op rfl rfl rfl rfl ?_
      refine WR.op rfl rfl rfl rfl ?_
      refine WR.call (f := 23) («as» := [.ptr ((stG e).next + 1) 0, .str nm6, .int .i64 n]) rfl (.inl rfl) rfl rfl rfl rfl ((text_grk (XA_dom 27) h55a h70a hsw _ (hr1.ext k2)).mono ?_)
      rw [hG]
      rintro v4 st4 ⟨rfl, k4⟩
      have hx4 : Ext (stG e) st4 := (k1.trans k2).trans k4
      refine WR.op rfl rfl rfl rfl ?_
      refine WR.nil ?_
      refine after.seq ?_
      refine WK.seq ?_
      refine WK.seq ?_
      refine WK.region ?_
      refine WR.op rfl rfl rfl rfl ?_
      refine WR.op rfl rfl (r_lss rfl rfl (iltb_t (by omega))) rfl ?_
      refine WR.nil ?_
      refine after.seq ?_
      refine WK.cond rfl (fun _ => ?_) (fun h => (by cases h))
      refine WK.seq ?_
      refine WK.region ?_
      refine WR.op rfl rfl rfl rfl ?_
      refine WR.op rfl rfl rfl rfl ?_
      refine WR.call (f := 25) («as» := [.int .i64 n]) rfl (.inl rfl) rfl rfl rfl rfl ((dec_ok (sumK_no (XA_dom 27) (by decide)) h1 h2 _).mono ?_)
      rintro v5 st5 ⟨rfl, k5⟩
      refine WR.op rfl rfl (r_seql rfl rfl (eqL_same _)) rfl ?_
      refine WR.op rfl rfl rfl rfl ?_
      refine WR.opG rfl rfl rfl rfl rfl ?_
      refine WR.opG rfl rfl rfl rfl rfl ?_
      refine WR.opG rfl rfl rfl (r_seql rfl rfl (eqL_same _)) rfl ?_
      refine WR.op rfl rfl rfl rfl ?_
      refine WR.op rfl rfl rfl rfl ?_
      refine WR.call (f := 27) («as» := []) rfl (.inr ⟨_, _, rfl, rfl⟩) rfl rfl rfl rfl ((aw_ok (by decide) (hkn (hx4.trans k5))).mono ?_)
      rintro va _ ⟨rfl, rfl⟩
      refine WR.op rfl rfl rfl rfl ?_
      refine WR.op rfl rfl rfl rfl ?_
      refine WR.nil ?_
      refine after.seq ?_
      refine WK.ret ?_
      refine after.seq_ret ?_
      exact ⟨ret_ne 0, ret_ne, [.bool true], (by rw [res13]; rfl), rfl⟩
    | false =>
      have hA : (if 1 ≤ heldN n then pick lowS (digs false 26 (heldN n).toNat) else decN (heldN n)) = decN n := by rw [hid, if_neg (by omega)]
      refine CallW.enter (hs _ _) Tryz.func13 body13 c13_of rfl ?_
      rw [nt13]
      unfold c13
      refine WK.seq ?_
      refine WK.region ?_
      refine WR.op rfl rfl rfl rfl ?_
      refine WR.nil ?_
      refine after.seq ?_
      refine WK.seq ?_
      refine WK.seq ?_
      refine WK.region ?_
      refine WR.op rfl rfl rfl rfl ?_
      refine WR.op rfl rfl (r_lss rfl rfl (iltb_f (by omega))) rfl ?_
      refine WR.op rfl rfl rfl rfl ?_
      refine WR.opG rfl rfl rfl rfl rfl ?_
      refine WR.opG rfl rfl rfl (r_gtr rfl rfl (iltb_f (by omega))) rfl ?_
      refine WR.op rfl rfl rfl rfl ?_
      refine WR.nil ?_
      refine after.seq ?_
      refine WK.cond rfl (fun h => (by cases h)) (fun _ => ?_)
      refine WK.skip ?_
      refine after.seq ?_
      refine WK.seq ?_
      refine WK.region ?_
      refine WR.call (f := 19) («as» := [.nils]) rfl (.inl rfl) rfl rfl rfl rfl ((new_ok (XA_dom 27) h19a (stG_pt e) (stG_nf e)).mono ?_)
      rintro v1 st1 ⟨rfl, hr1, k1⟩
      refine WR.op rfl rfl rfl rfl ?_
      refine WR.nil ?_
      refine after.seq ?_
      refine WK.seq ?_
      refine WK.seq ?_
      refine WK.region ?_
      refine WR.op rfl rfl rfl rfl ?_
      refine WR.op rfl rfl rfl rfl ?_
      refine WR.nil ?_
      refine after.seq ?_
      refine WK.cond rfl (fun h => (by cases h)) (fun _ => ?_)
      refine WK.skip ?_
      refine after.seq ?_
      refine WK.seq ?_
      refine WK.region ?_
      refine WR.op rfl rfl rfl rfl ?_
      refine WR.op rfl rfl rfl rfl ?_
      refine WR.nil ?_
      refine after.seq ?_
      refine WK.seq ?_
      refine WK.seq ?_
      refine WK.region ?_
      refine WR.op rfl rfl rfl rfl ?_
      refine WR.nil ?_
      refine after.seq ?_
      refine WK.cond rfl (fun h => (by cases h)) (fun _ => ?_)
      refine WK.skip ?_
      refine after.seq ?_
      refine WK.seq ?_
      refine WK.region ?_
      refine WR.op rfl rfl rfl rfl ?_
      refine WR.op rfl rfl rfl rfl ?_
      refine WR.op rfl rfl rfl rfl ?_
      refine WR.call (f := 23) («as» := [.ptr ((stG e).next + 1) 0, .str nm2, .int .i64 n]) rfl (.inl rfl) rfl rfl rfl rfl ((text_low (XA_dom 27) h55a h70a hsw _ hr1).mono ?_)
      rw [hA]
      rintro v2 st2 ⟨rfl, k2⟩
      refine WR.op rfl rfl rfl rfl ?_
      refine WR.nil ?_
      refine after.seq ?_
      refine WK.seq ?_
      refine WK.region ?_
      refine WR.op rfl rfl rfl rfl ?_
      refine WR.op rfl rfl rfl rfl ?_
      refine WR.call (f := 23) («as» := [.ptr ((stG e).next + 1) 0, .str nm6, .int .i64 n]) rfl (.inl rfl) rfl rfl rfl rfl ((text_grk (XA_dom 27) h55a h70a hsw _ (hr1.ext k2)).mono ?_)
      rw [hG]
      rintro v4 st4 ⟨rfl, k4⟩
      have hx4 : Ext (stG e) st4 := (k1.trans k2).trans k4
      refine WR.op rfl rfl rfl rfl ?_
      refine WR.nil ?_
      refine after.seq ?_
      refine WK.seq ?_
      refine WK.seq ?_
      refine WK.region ?_
      refine WR.op rfl rfl rfl rfl ?_
      refine WR.op rfl rfl (r_lss rfl rfl (iltb_t (by omega))) rfl ?_
      refine WR.nil ?_
      refine after.seq ?_
      refine WK.cond rfl (fun _ => ?_) (fun h => (by cases h))
      refine WK.seq ?_
      refine WK.region ?_
      refine WR.op rfl rfl rfl rfl ?_
      refine WR.op rfl rfl rfl rfl ?_
      refine WR.call (f := 25) («as» := [.int .i64 n]) rfl (.inl rfl) rfl rfl rfl rfl ((dec_ok (sumK_no (XA_dom 27) (by decide)) h1 h2 _).mono ?_)
      rintro v5 st5 ⟨rfl, k5⟩
      refine WR.op rfl rfl (r_seql rfl rfl (eqL_same _)) rfl ?_
      refine WR.op rfl rfl rfl rfl ?_
      refine WR.opG rfl rfl rfl rfl rfl ?_
      refine WR.opG rfl rfl rfl rfl rfl ?_
      refine WR.opG rfl rfl rfl (r_seql rfl rfl (eqL_same _)) rfl ?_
      refine WR.op rfl rfl rfl rfl ?_
      refine WR.op rfl rfl rfl rfl ?_
      refine WR.call (f := 27) («as» := []) rfl (.inr ⟨_, _, rfl, rfl⟩) rfl rfl rfl rfl ((aw_ok (by decide) (hkn (hx4.trans k5))).mono ?_)
      rintro va _ ⟨rfl, rfl⟩
      refine WR.op rfl rfl rfl rfl ?_
      refine WR.op rfl rfl rfl rfl ?_
      refine WR.nil ?_
      refine after.seq ?_
      refine WK.ret ?_
      refine after.seq_ret ?_
      exact ⟨ret_ne 0, ret_ne, [.bool true], (by rw [res13]; rfl), rfl⟩
  · obtain ⟨N, rfl⟩ : ∃ N : Nat, n = (N : Int) := ⟨n.toNat, by omega⟩
    have hid : heldN (N : Int) = (N : Int) := heldN_id (by omega) (by omega)
    have hG : (if 1 ≤ heldN (N : Int) then pick grkS (digs false 24 (heldN (N : Int)).toNat) else decN (heldN (N : Int))) = grkP (digs false 24 N).reverse := by rw [hid, if_pos (by omega)]; rfl
    cases upper with
    | true =>
      have hA : (if 1 ≤ heldN (N : Int) then pick uppS (digs false 26 (heldN (N : Int)).toNat) else decN (heldN (N : Int))) = (digs false 26 N).reverse.map (letB 65) := by rw [hid, if_pos (by omega)]; exact upp_str
      refine CallW.enter (hs _ _) Tryz.func13 body13 c13_of rfl ?_
      rw [nt13]
      unfold c13
      refine WK.seq ?_
      refine WK.region ?_
      refine WR.op rfl rfl rfl rfl ?_
      refine WR.nil ?_
      refine after.seq ?_
      refine WK.seq ?_
      refine WK.seq ?_
      refine WK.region ?_
      refine WR.op rfl rfl rfl rfl ?_
      refine WR.op rfl rfl (r_lss rfl rfl (iltb_f (by omega))) rfl ?_
      refine WR.op rfl rfl rfl rfl ?_
      refine WR.opG rfl rfl rfl rfl rfl ?_
      refine WR.opG rfl rfl rfl (r_gtr rfl rfl (iltb_f (by omega))) rfl ?_
      refine WR.op rfl rfl rfl rfl ?_
      refine WR.nil ?_
      refine after.seq ?_
      refine WK.cond rfl (fun h => (by cases h)) (fun _ => ?_)
      refine WK.skip ?_
      refine after.seq ?_
      refine WK.seq ?_
      refine WK.region ?_
      refine WR.call (f := 19) («as» := [.nils]) rfl (.inl rfl) rfl rfl rfl rfl ((new_ok (XA_dom 27) h19a (stG_pt e) (stG_nf e)).mono ?_)
      rintro v1 st1 ⟨rfl, hr1, k1⟩
      refine WR.op rfl rfl rfl rfl ?_
      refine WR.nil ?_
      refine after.seq ?_
      refine WK.seq ?_
      refine WK.seq ?_
      refine WK.region ?_
      refine WR.op rfl rfl rfl rfl ?_
      refine WR.op rfl rfl rfl rfl ?_
      refine WR.nil ?_
      refine after.seq ?_
      refine WK.cond rfl (fun h => (by cases h)) (fun _ => ?_)
      refine WK.skip ?_
      refine after.seq ?_
      refine WK.seq ?_
      refine WK.region ?_
      refine WR.op rfl rfl rfl rfl ?_
      refine WR.op rfl rfl rfl rfl ?_
      refine WR.nil ?_
      refine after.seq ?_
      refine WK.seq ?_
      refine WK.seq ?_
      refine WK.region ?_
      refine WR.op rfl rfl rfl rfl ?_
      refine WR.nil ?_
      refine after.seq ?_
      refine WK.cond rfl (fun _ => ?_) (fun h => (by cases h))
      refine WK.region ?_
      refine WR.op rfl rfl rfl rfl ?_
      refine WR.op rfl rfl rfl rfl ?_
      refine WR.nil ?_
      refine after.seq ?_
      refine WK.seq ?_
      refine WK.region ?_
      refine WR.op rfl rfl rfl rfl ?_
      refine WR.op rfl rfl rfl rfl ?_
      refine WR.op rfl rfl rfl rfl ?_
      refine WR.call (f := 23) («as» := [.ptr ((stG e).next + 1) 0, .str nm3, .int .i64 (N : Int)]) rfl (.inl rfl) rfl rfl rfl rfl ((text_upp (XA_dom 27) h55a h70a hsw _ hr1).mono ?_)
      rw [hA]
      rintro v2 st2 ⟨rfl, k2⟩
      refine WR.op rfl rfl rfl rfl ?_
      refine WR.nil ?_
      refine after.seq ?_
      refine WK.seq ?_
      refine WK.region ?_
      refine WR.op rfl rfl rfl rfl ?_
      refine WR.op rfl rfl rfl rfl ?_
      refine WR.call (f := 23) («as» := [.ptr ((stG e).next + 1) 0, .str nm6, .int .i64 (N : Int)]) rfl (.inl rfl) rfl rfl rfl rfl ((text_grk (XA_dom 27) h55a h70a hsw _ (hr1.ext k2)).mono ?_)
      rw [hG]
      rintro v4 st4 ⟨rfl, k4⟩
      have hx4 : Ext (stG e) st4 := (k1.trans k2).trans k4
      refine WR.op rfl rfl rfl rfl ?_
      refine WR.nil ?_
      refine after.seq ?_
      refine WK.seq ?_
      refine WK.seq ?_
      refine WK.region ?_
      refine WR.op rfl rfl rfl rfl ?_
      refine WR.op rfl rfl (r_lss rfl rfl (iltb_f (by omega))) rfl ?_
      refine WR.nil ?_
      refine after.seq ?_
      refine WK.cond rfl (fun h => (by cases h)) (fun _ => ?_)
      refine WK.skip ?_
      refine after.seq ?_
      refine WK.seq ?_
      refine WK.region ?_
      refine WR.op rfl rfl rfl rfl ?_
      refine WR.nil ?_
      refine after.seq ?_
      refine WK.seq ?_
      refine WK.seq ?_
      refine WK.region ?_
      refine WR.op rfl rfl rfl rfl ?_
      refine WR.nil ?_
      refine after.seq ?_
      refine WK.block ?_
      refine let_loop (B := 65) (N := N) (g := grkP (digs false 24 N).reverse) (n := (N : Int)) (by decide) (ds := (digs false 26 N).reverse) (fun p hp => digs_lt false (by decide) p (List.mem_reverse.1 hp)) (by rw [List.length_reverse]; have := digs_len false 26 N; omega) (by omega) rfl (digs false 26 N).reverse [] 0 rfl (valA_posA (by decide) 40 N (by omega)) _ rfl rfl rfl rfl rfl rfl fun env1 e1 e2 e3 => ?_
      refine after.seq ?_
      refine WK.sub [(0, .int .i64 (N : Int)), (9, .str (grkP (digs false 24 N).reverse)), (10, .int .i64 (N : Int))] ?_ ?_
      · intro t v ht
        simp only [lookE_cons] at ht
        by_cases e0 : t = 0
        · rw [if_pos e0] at ht; subst e0; rw [e1]; exact ht
        rw [if_neg e0] at ht
        by_cases e9 : t = 9
        · rw [if_pos e9] at ht; subst e9; rw [e2]; exact ht
        rw [if_neg e9] at ht
        by_cases e10 : t = 10
        · rw [if_pos e10] at ht; subst e10; rw [e3]; exact ht
        rw [if_neg e10] at ht
        cases ht
      refine WK.seq ?_
      refine WK.region ?_
      refine WR.op rfl rfl rfl rfl ?_
      refine WR.nil ?_
      refine after.seq ?_
      refine WK.seq ?_
      refine WK.seq ?_
      refine WK.region ?_
      refine WR.op rfl rfl rfl rfl ?_
      refine WR.op rfl rfl (r_range Tryz.underlying9 rfl) rfl ?_
      refine WR.nil ?_
      refine after.seq ?_
      refine WK.block ?_
      refine grk_loop (N := N) (M := N) (n := (N : Int)) (st := st4) (by omega) (Nat.le_refl _) (digs false 24 N).reverse (fun p hp => digs_lt false (by decide) p (List.mem_reverse.1 hp)) 0 0 _ (valA_posA (by decide) 40 N (by omega)) (by rw [List.length_reverse]; have := digs_len false 24 N; omega) (push_self _ _) ((Ext.refl st4).push _) _ rfl rfl rfl rfl fun env5 st5 k5 e4 e5 e6 => ?_
      refine after.seq ?_
      refine WK.sub [(0, .int .i64 (N : Int)), (10, .int .i64 (N : Int)), (12, .int .i64 (N : Int))] ?_ ?_
      · intro t v ht
        simp only [lookE_cons] at ht
        by_cases e0 : t = 0
        · rw [if_pos e0] at ht; subst e0; rw [e4]; exact ht
        rw [if_neg e0] at ht
        by_cases e10 : t = 10
        · rw [if_pos e10] at ht; subst e10; rw [e5]; exact ht
        rw [if_neg e10] at ht
        by_cases e12 : t = 12
        · rw [if_pos e12] at ht; subst e12; rw [e6]; exact ht
        rw [if_neg e12] at ht
        cases ht
      refine WK.seq ?_
      refine WK.region ?_
      refine WR.op rfl rfl rfl rfl ?_
      refine WR.op rfl rfl rfl rfl ?_
      refine WR.op rfl rfl (r_eql rfl rfl (ieqb_self _)) rfl ?_
      refine WR.op rfl rfl rfl rfl ?_
      refine WR.opG rfl rfl rfl rfl rfl ?_
      refine WR.opG rfl rfl rfl rfl rfl ?_
      refine WR.opG rfl rfl rfl (r_eql rfl rfl (ieqb_self _)) rfl ?_
      refine WR.op rfl rfl rfl rfl ?_
      refine WR.op rfl rfl rfl rfl ?_
      refine WR.call (f := 27) («as» := []) rfl (.inr ⟨_, _, rfl, rfl⟩) rfl rfl rfl rfl ((aw_ok (by decide) (hkn (hx4.trans k5))).mono ?_)
      rintro va _ ⟨rfl, rfl⟩
      refine WR.op rfl rfl rfl rfl ?_
      refine WR.op rfl rfl rfl rfl ?_
      refine WR.nil ?_
      refine after.seq ?_
      refine WK.ret ?_
      exact ⟨ret_ne 0, ret_ne, [.bool true], (by rw [res13]; rfl), rfl⟩
    | false =>
      have hA : (if 1 ≤ heldN (N : Int) then pick lowS (digs false 26 (heldN (N : Int)).toNat) else decN (heldN (N : Int))) = (digs false 26 N).reverse.map (letB 97) := by rw [hid, if_pos (by omega)]; exact low_str
      refine CallW.enter (hs _ _) Tryz.func13 body13 c13_of rfl ?_
      rw [nt13]
      unfold c13
      refine WK.seq ?_
      refine WK.region ?_
      refine WR.op rfl rfl rfl rfl ?_
      refine WR.nil ?_
      refine after.seq ?_
      refine WK.seq ?_
      refine WK.seq ?_
      refine WK.region ?_
      refine WR.op rfl rfl rfl rfl ?_
      refine WR.op rfl rfl (r_lss rfl rfl (iltb_f (by omega))) rfl ?_
      refine WR.op rfl rfl rfl rfl ?_
      refine WR.opG rfl rfl rfl rfl rfl ?_
      refine WR.opG rfl rfl rfl (r_gtr rfl rfl (iltb_f (by omega))) rfl ?_
      refine WR.op rfl rfl rfl rfl ?_
      refine WR.nil ?_
      refine after.seq ?_
      refine WK.cond rfl (fun h => (by cases h)) (fun _ => ?_)
      refine WK.skip ?_
      refine after.seq ?_
      refine WK.seq ?_
      refine WK.region ?_
      refine WR.call (f := 19) («as» := [.nils]) rfl (.inl rfl) rfl rfl rfl rfl ((new_ok (XA_dom 27) h19a (stG_pt e) (stG_nf e)).mono ?_)
      rintro v1 st1 ⟨rfl, hr1, k1⟩
      refine WR.op rfl rfl rfl rfl ?_
      refine WR.nil ?_
      refine after.seq ?_
      refine WK.seq ?_
      refine WK.seq ?_
      refine WK.region ?_
      refine WR.op rfl rfl rfl rfl ?_
      refine WR.op rfl rfl rfl rfl ?_
      refine WR.nil ?_
      refine after.seq ?_
      refine WK.cond rfl (fun h => (by cases h)) (fun _ => ?_)
      refine WK.skip ?_
      refine after.seq ?_
      refine WK.seq ?_
      refine WK.region ?_
      refine WR.op rfl rfl rfl rfl ?_
      refine WR.op rfl rfl rfl rfl ?_
      refine WR.nil ?_
      refine after.seq ?_
      refine WK.seq ?_
      refine WK.seq ?_
      refine WK.region ?_
      refine WR.op rfl rfl rfl rfl ?_
      refine WR.nil ?_
      refine after.seq ?_
      refine WK.cond rfl (fun h => (by cases h)) (fun _ => ?_)
      refine WK.skip ?_
      refine after.seq ?_
      refine WK.seq ?_
      refine WK.region ?_
      refine WR.op rfl rfl rfl rfl ?_
      refine WR.op rfl rfl rfl rfl ?_
      refine WR.op rfl rfl rfl rfl ?_
      refine WR.call (f := 23) («as» := [.ptr ((stG e).next + 1) 0, .str nm2, .int .i64 (N : Int)]) rfl (.inl rfl) rfl rfl rfl rfl ((text_low (XA_dom 27) h55a h70a hsw _ hr1).mono ?_)
      rw [hA]
      rintro v2 st2 ⟨rfl, k2⟩
      refine WR.op rfl rfl rfl rfl ?_
      refine WR.nil ?_
      refine after.seq ?_
      refine WK.seq ?_
      refine WK.region ?_
      refine WR.op rfl rfl rfl rfl ?_
      refine WR.op rfl rfl rfl rfl ?_
      refine WR.call (f := 23) («as» := [.ptr ((stG e).next + 1) 0, .str nm6, .int .i64 (N : Int)]) rfl (.inl rfl) rfl rfl rfl rfl ((text_grk (XA_dom 27) h55a h70a hsw _ (hr1.ext k2)).mono ?_)
      rw [hG]
      rintro v4 st4 ⟨rfl, k4⟩
      have hx4 : Ext (stG e) st4 := (k1.trans k2).trans k4
      refine WR.op rfl rfl rfl rfl ?_
      refine WR.nil ?_
      refine after.seq ?_
      refine WK.seq ?_
      refine WK.seq ?_
      refine WK.region ?_
      refine WR.op rfl rfl rfl rfl ?_
      refine WR.op rfl rfl (r_lss rfl rfl (iltb_f (by omega))) rfl ?_
      refine WR.nil ?_
      refine after.seq ?_
      refine WK.cond rfl (fun h => (by cases h)) (fun _ => ?_)
      refine WK.skip ?_
      refine after.seq ?_
      refine WK.seq ?_
      refine WK.region ?_
      refine WR.op rfl rfl rfl rfl ?_
      refine WR.nil ?_
      refine after.seq ?_
      refine WK.seq ?_
      refine WK.seq ?_
      refine WK.region ?_
      refine WR.op rfl rfl rfl rfl ?_
      refine WR.nil ?_
      refine after.seq ?_
      refine WK.block ?_
      refine let_loop (B := 97) (N := N) (g := grkP (digs false 24 N).reverse) (n := (N : Int)) (by decide) (ds := (digs false 26 N).reverse) (fun p hp => digs_lt false (by decide) p (List.mem_reverse.1 hp)) (by rw [List.length_reverse]; have := digs_len false 26 N; omega) (by omega) rfl (digs false 26 N).reverse [] 0 rfl (valA_posA (by decide) 40 N (by omega)) _ rfl rfl rfl rfl rfl rfl fun env1 e1 e2 e3 => ?_
      refine after.seq ?_
      refine WK.sub [(0, .int .i64 (N : Int)), (9, .str (grkP (digs false 24 N).reverse)), (10, .int .i64 (N : Int))] ?_ ?_
      · intro t v ht
        simp only [lookE_cons] at ht
        by_cases e0 : t = 0
        · rw [if_pos e0] at ht; subst e0; rw [e1]; exact ht
        rw [if_neg e0] at ht
        by_cases e9 : t = 9
        · rw [if_pos e9] at ht; subst e9; rw [e2]; exact ht
        rw [if_neg e9] at ht
        by_cases e10 : t = 10
        · rw [if_pos e10] at ht; subst e10; rw [e3]; exact ht
        rw [if_neg e10] at ht
        cases ht
      refine WK.seq ?_
      refine WK.region ?_
      refine WR.op rfl rfl rfl rfl ?_
      refine WR.nil ?_
      refine after.seq ?_
      refine WK.seq ?_
      refine WK.seq ?_
      refine WK.region ?_
      refine WR.op rfl rfl rfl rfl ?_
      refine WR.op rfl rfl (r_range Tryz.underlying9 rfl) rfl ?_
      refine WR.nil ?_
      refine after.seq ?_
      refine WK.block ?_
      refine grk_loop (N := N) (M := N) (n := (N : Int)) (st := st4) (by omega) (Nat.le_refl _) (digs false 24 N).reverse (fun p hp => digs_lt false (by decide) p (List.mem_reverse.1 hp)) 0 0 _ (valA_posA (by decide) 40 N (by omega)) (by rw [List.length_reverse]; have := digs_len false 24 N; omega) (push_self _ _) ((Ext.refl st4).push _) _ rfl rfl rfl rfl fun env5 st5 k5 e4 e5 e6 => ?_
      refine after.seq ?_
      refine WK.sub [(0, .int .i64 (N : Int)), (10, .int .i64 (N : Int)), (12, .int .i64 (N : Int))] ?_ ?_
      · intro t v ht
        simp only [lookE_cons] at ht
        by_cases e0 : t = 0
        · rw [if_pos e0] at ht; subst e0; rw [e4]; exact ht
        rw [if_neg e0] at ht
        by_cases e10 : t = 10
        · rw [if_pos e10] at ht; subst e10; rw [e5]; exact ht
        rw [if_neg e10] at ht
        by_cases e12 : t = 12
        · rw [if_pos e12] at ht; subst e12; rw [e6]; exact ht
        rw [if_neg e12] at ht
        cases ht
      refine WK.seq ?_
      refine WK.region ?_
      refine WR.op rfl rfl rfl rfl ?_
      refine WR.op rfl rfl rfl rfl ?_
      refine WR.op rfl rfl (r_eql rfl rfl (ieqb_self _)) rfl ?_
      refine WR.op rfl rfl rfl rfl ?_
      refine WR.opG rfl rfl rfl rfl rfl ?_
      refine WR.opG rfl rfl rfl rfl rfl ?_
      refine WR.opG rfl rfl rfl (r_eql rfl rfl (ieqb_self _)) rfl ?_
      refine WR.op rfl rfl rfl rfl ?_
      refine WR.op rfl rfl rfl rfl ?_
      refine WR.call (f := 27) («as» := []) rfl (.inr ⟨_, _, rfl, rfl⟩) rfl rfl rfl rfl ((aw_ok (by decide) (hkn (hx4.trans k5))).mono ?_)
      rintro va _ ⟨rfl, rfl⟩
      refine WR.op rfl rfl rfl rfl ?_
      refine WR.op rfl rfl rfl rfl ?_
      refine WR.nil ?_
      refine after.seq ?_
      refine WK.ret ?_
      exact ⟨ret_ne 0, ret_ne, [.bool true], (by rw [res13]; rfl), rfl⟩
end Go.Proofs.Tz
