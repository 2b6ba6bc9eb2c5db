/- fleuronref1.Read of a letter and one sign more; Put. -/
import Derived.Test.YtjnahfpnehmehaaGreatDoorAeG
import Derived.Test.YtjnahfpnehmehaaGreatDoorTz1
namespace Go.Proofs.Tz
open Go Go.AE Go.RowKit Go.Proofs
set_option maxRecDepth 100000
variable {sum : FuncId → List AV → St → Option (AV × St)}
/-- fleuron/fleuronref1.Put -/
def c15 : SC := (.seq (.region [⟨.assign (.const (.string ⟨#[]⟩)), some 2, none⟩])
  (.seq (.region [⟨.move (.tmp 0), some 3, none⟩, ⟨.buildSlice 24 1 #[(0, (.tmp 3))], some 4, none⟩, ⟨.convert 24 9 (.tmp 4), some 5, none⟩, ⟨.assign (.tmp 5), some 2, none⟩])
  .ret))
theorem c15_of : SC.of Tryz.f15.body.get! = c15 := by kernel_rfl
/-- fleuron/fleuronref1.Read -/
def c16 : SC := (.seq (.region [⟨.assign (.const (.slice none 0 0)), some 2, none⟩])
  (.seq (.region [⟨.assign (.const (.slice none 0 0)), some 3, none⟩])
  (.seq (.region [⟨.assign (.const (.bool true)), some 4, none⟩, ⟨.assign (.const (.bool false)), some 5, none⟩])
  (.seq (.seq (.region [⟨.move (.tmp 0), some 8, none⟩, ⟨.convert 26 9 (.tmp 8), some 9, none⟩, ⟨.range 9 (.tmp 9), some 10, none⟩])
  (.block 0 (.loop (.seq (.region [⟨.next (.tmp 10) true, some 11, none⟩, ⟨.extract (.tmp 11) 0, some 12, none⟩])
  (.seq (.cond (.tmp 12) .skip (.exit 0))
  (.block 1 (.seq (.region [⟨.extract (.tmp 11) 2, some 13, none⟩, ⟨.assign (.tmp 13), some 7, none⟩])
  (.seq (.seq (.region [⟨.move (.tmp 4), some 14, none⟩, ⟨.move (.tmp 14), some 15, none⟩, ⟨.move (.tmp 7), some 16, some (15, true)⟩, ⟨.binOp .eql 21 (.tmp 16) (.const (.int .i32 65279)) 21, some 17, some (15, true)⟩, ⟨.pick (.tmp 15) (.tmp 17) (.const (.bool false)), some 18, none⟩])
  (.cond (.tmp 18) (.seq (.region [⟨.assign (.const (.bool false)), some 4, none⟩])
  (.exit 1)) .skip))
  (.seq (.region [⟨.assign (.const (.bool false)), some 4, none⟩])
  (.seq (.seq (.region [⟨.move (.tmp 5), some 19, none⟩, ⟨.move (.tmp 19), some 20, none⟩, ⟨.move (.tmp 7), some 21, some (20, true)⟩, ⟨.binOp .eql 21 (.tmp 21) (.const (.int .i32 10)) 21, some 22, some (20, true)⟩, ⟨.pick (.tmp 20) (.tmp 22) (.const (.bool false)), some 23, none⟩])
  (.cond (.tmp 23) (.seq (.region [⟨.assign (.const (.bool false)), some 5, none⟩])
  (.exit 1)) .skip))
  (.seq (.region [⟨.move (.tmp 7), some 24, none⟩, ⟨.binOp .eql 21 (.tmp 24) (.const (.int .i32 13)) 21, some 25, none⟩, ⟨.assign (.tmp 25), some 5, none⟩])
  (.seq (.seq (.region [⟨.move (.tmp 7), some 26, none⟩])
  (.block 2 (.seq (.seq (.region [⟨.binOp .eql 21 (.tmp 26) (.const (.int .i32 13)) 21, some 28, none⟩, ⟨.assign (.tmp 28), some 27, none⟩])
  (.cond (.tmp 27) .skip (.region [⟨.binOp .eql 21 (.tmp 26) (.const (.int .i32 12)) 21, some 29, none⟩, ⟨.assign (.tmp 29), some 27, none⟩])))
  (.cond (.tmp 27) (.region [⟨.assign (.const (.int .i32 10)), some 7, none⟩]) (.seq (.region [⟨.binOp .eql 21 (.tmp 26) (.const (.int .i32 0)) 21, some 31, none⟩, ⟨.assign (.tmp 31), some 30, none⟩])
  (.cond (.tmp 30) (.region [⟨.assign (.const (.int .i32 65533)), some 7, none⟩]) .skip))))))
  (.region [⟨.move (.tmp 3), some 32, none⟩, ⟨.move (.tmp 7), some 33, none⟩, ⟨.buildSlice 24 1 #[(0, (.tmp 33))], some 34, none⟩, ⟨.call ⟨.builtin .append, #[(.tmp 32), (.tmp 34)], #[24, 24]⟩, some 35, none⟩, ⟨.assign (.tmp 35), some 3, none⟩])))))))))))))
  (.seq (.region [⟨.move (.tmp 3), some 36, none⟩, ⟨.assign (.tmp 36), some 2, none⟩])
  .ret)))))
theorem c16_of : SC.of Tryz.f16.body.get! = c16 := by kernel_rfl
theorem body15 : Tryz.f15.body = some (Tryz.f15.body.get!) := by kernel_rfl
theorem nt15 : Tryz.f15.ntmps = 6 := by kernel_rfl
theorem res15 : Tryz.f15.results.toList = [.tmp 2] := by kernel_rfl
theorem body16 : Tryz.f16.body = some (Tryz.f16.body.get!) := by kernel_rfl
theorem nt16 : Tryz.f16.ntmps = 37 := by kernel_rfl
theorem res16 : Tryz.f16.results.toList = [.tmp 2] := by kernel_rfl
theorem sz21 : sizeT Tryz.prog 21 = some 1 := by kernel_rfl
theorem by21 : bytesT Tryz.prog 21 = some 4 := by kernel_rfl
theorem ze21 : zeroT Tryz.prog 21 = some (.int .i32 0) := by kernel_rfl
theorem put_ok (hs : ∀ xs st, sum 15 xs st = none) (n : Int) (st : St) : CallW (CS sum) 15 [.int .i32 n] st fun v st' => v = .str (enc8 n) ∧ Ext st st' := by
  refine CallW.enter (hs _ _) Tryz.func15 body15 c15_of rfl ?_
  rw [nt15]
  unfold c15
  refine WK.seq (WK.region ?_)
  refine WR.op rfl rfl rfl rfl ?_
  refine WR.nil ?_
  refine WK.seq (WK.region ?_)
  refine WR.op rfl rfl rfl rfl ?_
  refine WR.op rfl rfl (r_lit (v := .int .i32 n) Tryz.underlying24 sz21 ze21 rfl rfl rfl) rfl ?_
  refine WR.op rfl rfl (r_runes1 Tryz.underlying9 Tryz.underlying24 Tryz.underlying21 rfl (stLit_load st 21 (.int .i32 n) rfl)) rfl ?_
  refine WR.op rfl rfl rfl rfl ?_
  refine WR.nil ?_
  refine WK.ret ?_
  exact ⟨fun h => (by cases h), fun i h => (by cases h), [.str (enc8 n)], by rw [res15]; rfl, rfl, (Ext.refl st).lit _ _⟩
theorem setObj_heap_ne (st : St) {b k : Nat} (o : AObj) (h : k ≠ b) : (st.setObj b o).heap.get k = st.heap.get k := by rw [set_get, if_neg h]
/-- The loop of fleuronref1.Read, and what stands behind it. -/
def c16loop : SC := (.loop (.seq (.region [⟨.next (.tmp 10) true, some 11, none⟩, ⟨.extract (.tmp 11) 0, some 12, none⟩])
  (.seq (.cond (.tmp 12) .skip (.exit 0))
  (.block 1 (.seq (.region [⟨.extract (.tmp 11) 2, some 13, none⟩, ⟨.assign (.tmp 13), some 7, none⟩])
  (.seq (.seq (.region [⟨.move (.tmp 4), some 14, none⟩, ⟨.move (.tmp 14), some 15, none⟩, ⟨.move (.tmp 7), some 16, some (15, true)⟩, ⟨.binOp .eql 21 (.tmp 16) (.const (.int .i32 65279)) 21, some 17, some (15, true)⟩, ⟨.pick (.tmp 15) (.tmp 17) (.const (.bool false)), some 18, none⟩])
  (.cond (.tmp 18) (.seq (.region [⟨.assign (.const (.bool false)), some 4, none⟩])
  (.exit 1)) .skip))
  (.seq (.region [⟨.assign (.const (.bool false)), some 4, none⟩])
  (.seq (.seq (.region [⟨.move (.tmp 5), some 19, none⟩, ⟨.move (.tmp 19), some 20, none⟩, ⟨.move (.tmp 7), some 21, some (20, true)⟩, ⟨.binOp .eql 21 (.tmp 21) (.const (.int .i32 10)) 21, some 22, some (20, true)⟩, ⟨.pick (.tmp 20) (.tmp 22) (.const (.bool false)), some 23, none⟩])
  (.cond (.tmp 23) (.seq (.region [⟨.assign (.const (.bool false)), some 5, none⟩])
  (.exit 1)) .skip))
  (.seq (.region [⟨.move (.tmp 7), some 24, none⟩, ⟨.binOp .eql 21 (.tmp 24) (.const (.int .i32 13)) 21, some 25, none⟩, ⟨.assign (.tmp 25), some 5, none⟩])
  (.seq (.seq (.region [⟨.move (.tmp 7), some 26, none⟩])
  (.block 2 (.seq (.seq (.region [⟨.binOp .eql 21 (.tmp 26) (.const (.int .i32 13)) 21, some 28, none⟩, ⟨.assign (.tmp 28), some 27, none⟩])
  (.cond (.tmp 27) .skip (.region [⟨.binOp .eql 21 (.tmp 26) (.const (.int .i32 12)) 21, some 29, none⟩, ⟨.assign (.tmp 29), some 27, none⟩])))
  (.cond (.tmp 27) (.region [⟨.assign (.const (.int .i32 10)), some 7, none⟩]) (.seq (.region [⟨.binOp .eql 21 (.tmp 26) (.const (.int .i32 0)) 21, some 31, none⟩, ⟨.assign (.tmp 31), some 30, none⟩])
  (.cond (.tmp 30) (.region [⟨.assign (.const (.int .i32 65533)), some 7, none⟩]) .skip))))))
  (.region [⟨.move (.tmp 3), some 32, none⟩, ⟨.move (.tmp 7), some 33, none⟩, ⟨.buildSlice 24 1 #[(0, (.tmp 33))], some 34, none⟩, ⟨.call ⟨.builtin .append, #[(.tmp 32), (.tmp 34)], #[24, 24]⟩, some 35, none⟩, ⟨.assign (.tmp 35), some 3, none⟩])))))))))))
def c16end : SC := (.seq (.region [⟨.move (.tmp 3), some 36, none⟩, ⟨.assign (.tmp 36), some 2, none⟩])
  .ret)
/-- Ends of the round: the sign is put behind the others. -/
def c16app : SC := (.region [⟨.move (.tmp 3), some 32, none⟩, ⟨.move (.tmp 7), some 33, none⟩, ⟨.buildSlice 24 1 #[(0, (.tmp 33))], some 34, none⟩, ⟨.call ⟨.builtin .append, #[(.tmp 32), (.tmp 34)], #[24, 24]⟩, some 35, none⟩, ⟨.assign (.tmp 35), some 3, none⟩])
theorem read_app {st0 st : St} {x : AV} {f : Nat} {l : List (List AV)} {r : Int} {env : Env} {ks : List Kont} {Q : Post3} (h3 : lookE 3 env = some x) (h7 : lookE 7 env = some (.int .i32 r)) (hrow : IsRow st x f 21 1 l) (hext : Ext st0 st) (hf : x = .nils ∨ st0.next ≤ f) (hl : l.length ≤ 1000000)
    (h : ∀ x' st' f', IsRow st' x' f' 21 1 (l ++ [[.int .i32 r]]) → Ext st0 st' → st0.next ≤ f' → (∀ k, k < st.next → st'.heap.get k = st.heap.get k) → st.next ≤ st'.next →
      after (CS sum) 37 none ks Q .normal ((3, x') :: (35, x') :: (34, .slc st.next 0 1 (some 1)) :: (33, .int .i32 r) :: (32, x) :: env) st') : WK (CS sum) 37 none c16app ks env st Q := by
  unfold c16app
  refine WK.region ?_
  refine WR.op rfl rfl (v := x) (st' := st) ?_ rfl ?_
  · simp only [aopR, evE, h3, bnd_some]
  refine WR.op rfl rfl (v := .int .i32 r) (st' := st) ?_ rfl ?_
  · simp only [aopR, evE, lookE_cons, h7]; rfl
  refine WR.op rfl rfl (r_lit (v := .int .i32 r) Tryz.underlying24 sz21 ze21 rfl rfl rfl) rfl ?_
  have hl2 := stLit_load st 21 (.int .i32 r) rfl
  have hnx : (stLit st 21 (.int .i32 r)).next = st.next + 1 := push_next _ _
  obtain ⟨x', st', f', h1, h2, e3, e4, e5, e6, e7⟩ := IsRow.append (st0 := st0) (n := 1) (bytes := 4) (new := [AV.int .i32 r]) (hrow.ext ((Ext.refl st).lit 21 (.int .i32 r))) (hext.lit _ _) hf (Nat.le_refl 1) (Nat.le_refl 1) (chunks_one [AV.int .i32 r]) rfl rfl (by omega)
  refine WR.op rfl rfl ((r_append (xv := x) Tryz.underlying24 sz21 by21 rfl ze21 rfl rfl rfl hl2).trans h1) rfl ?_
  refine WR.op rfl rfl rfl rfl ?_
  refine WR.nil ?_
  refine h x' st' f' h2 e3 e4 (fun k hk => ?_) (by omega)
  rw [e5 k (by omega)]
  unfold stLit
  rw [push_get, if_neg (by omega)]
theorem read_ok (hs : ∀ xs st, sum 16 xs st = none) (g : List UInt8) (c : Nat) (hg : g ≠ []) (hd : dec8 g = (c, g.length)) (st : St) (m f : Nat) (_hm : m < st.next) (_hf : f < st.next) (hr : RowAt st m f 5 1 (byteEls (97 :: g))) :
    CallW (CS sum) 16 [.slc m 0 (97 :: g).length none] st fun v st' => Ext st st' ∧ ∃ f' r, IsRow st' v f' 21 1 [[.int .i32 97], [.int .i32 r]] := by
  refine CallW.enter (hs _ _) Tryz.func16 body16 c16_of rfl ?_
  rw [nt16]
  unfold c16
  refine WK.seq (WK.region ?_)
  refine WR.op rfl rfl rfl rfl ?_
  refine WR.nil ?_
  refine WK.seq (WK.region ?_)
  refine WR.op rfl rfl rfl rfl ?_
  refine WR.nil ?_
  refine WK.seq (WK.region ?_)
  refine WR.op rfl rfl rfl rfl ?_
  refine WR.op rfl rfl rfl rfl ?_
  refine WR.nil ?_
  refine WK.seq (WK.seq (WK.region ?_))
  refine WR.op rfl rfl rfl rfl ?_
  refine WR.op rfl rfl (r_string Tryz.underlying9 Tryz.underlying26 Tryz.underlying5 rfl hr) rfl ?_
  refine WR.op rfl rfl (r_range Tryz.underlying9 rfl) rfl ?_
  refine WR.nil ?_
  refine WK.block ?_
  -- the letter
  refine WK.loop (WK.seq (WK.region ?_))
  refine WR.op rfl rfl (r_nextD (s := 97 :: g) (rest := g) (k := 97) (w := 1) (by simp) rfl (by rw [push_get, if_pos rfl]) rfl rfl) rfl ?_
  refine WR.op rfl rfl rfl rfl ?_
  refine WR.nil ?_
  refine WK.seq (WK.cond rfl (fun _ => WK.skip ?_) (fun h => (by cases h)))
  refine WK.block (WK.seq (WK.region ?_))
  refine WR.op rfl rfl rfl rfl ?_
  refine WR.op rfl rfl rfl rfl ?_
  refine WR.nil ?_
  refine WK.seq (WK.seq (WK.region ?_))
  refine WR.op rfl rfl rfl rfl ?_
  refine WR.op rfl rfl rfl rfl ?_
  refine WR.opG rfl rfl rfl rfl rfl ?_
  refine WR.opG rfl rfl rfl rfl rfl ?_
  refine WR.op rfl rfl rfl rfl ?_
  refine WR.nil ?_
  refine WK.cond rfl (fun h => (by cases h)) (fun _ => WK.skip ?_)
  refine WK.seq (WK.region ?_)
  refine WR.op rfl rfl rfl rfl ?_
  refine WR.nil ?_
  refine WK.seq (WK.seq (WK.region ?_))
  refine WR.op rfl rfl rfl rfl ?_
  refine WR.op rfl rfl rfl rfl ?_
  refine WR.off rfl rfl rfl rfl rfl ?_
  refine WR.off rfl rfl rfl rfl rfl ?_
  refine WR.op rfl rfl rfl rfl ?_
  refine WR.nil ?_
  refine WK.cond rfl (fun h => (by cases h)) (fun _ => WK.skip ?_)
  refine WK.seq (WK.region ?_)
  refine WR.op rfl rfl rfl rfl ?_
  refine WR.op rfl rfl rfl rfl ?_
  refine WR.op rfl rfl rfl rfl ?_
  refine WR.nil ?_
  refine WK.seq (WK.seq (WK.region ?_))
  refine WR.op rfl rfl rfl rfl ?_
  refine WR.nil ?_
  refine WK.block (WK.seq (WK.seq (WK.region ?_)))
  refine WR.op rfl rfl rfl rfl ?_
  refine WR.op rfl rfl rfl rfl ?_
  refine WR.nil ?_
  refine WK.cond rfl (fun h => (by cases h)) (fun _ => WK.region ?_)
  refine WR.op rfl rfl rfl rfl ?_
  refine WR.op rfl rfl rfl rfl ?_
  refine WR.nil ?_
  refine WK.cond rfl (fun h => (by cases h)) (fun _ => WK.seq (WK.region ?_))
  refine WR.op rfl rfl rfl rfl ?_
  refine WR.op rfl rfl rfl rfl ?_
  refine WR.nil ?_
  refine WK.cond rfl (fun h => (by cases h)) (fun _ => WK.skip ?_)
  have hx1 : Ext st ((st.push (.siter (97 :: g) 0)).setObj st.next (.siter g (0 + 1))) := ((Ext.refl st).push _).set (Nat.le_refl _) _
  have hg1 : ((st.push (.siter (97 :: g) 0)).setObj st.next (.siter g (0 + 1))).heap.get st.next = some (.siter g (0 + 1)) := by rw [set_get, if_pos rfl]
  have hnx : ((st.push (.siter (97 :: g) 0)).setObj st.next (.siter g (0 + 1))).next = st.next + 1 := by
    have : ∀ (s : St) (o : AObj), (s.setObj st.next o).next = s.next := fun s o => by cases s; rfl
    rw [this, push_next]
  refine read_app (st0 := st) (x := .nils) (f := 0) (l := []) (r := 97) rfl rfl (.inl ⟨rfl, rfl⟩) hx1 (.inl rfl) (by simp) fun x' st2 f' hrow hx2 hf2 hkeep hn2 => ?_
  have hg2 : st2.heap.get st.next = some (.siter g (0 + 1)) := by rw [hkeep _ (by omega)]; exact hg1
  -- the sign
  refine WK.loop (WK.seq (WK.region ?_))
  refine WR.op rfl rfl (r_nextD (s := g) (rest := []) (k := c) (w := g.length) hg rfl hg2 hd (by simp)) rfl ?_
  refine WR.op rfl rfl rfl rfl ?_
  refine WR.nil ?_
  refine WK.seq (WK.cond rfl (fun _ => WK.skip ?_) (fun h => (by cases h)))
  refine WK.block (WK.seq (WK.region ?_))
  refine WR.op rfl rfl rfl rfl ?_
  refine WR.op rfl rfl rfl rfl ?_
  refine WR.nil ?_
  refine WK.seq (WK.seq (WK.region ?_))
  refine WR.op rfl rfl rfl rfl ?_
  refine WR.op rfl rfl rfl rfl ?_
  refine WR.off rfl rfl rfl rfl rfl ?_
  refine WR.off rfl rfl rfl rfl rfl ?_
  refine WR.op rfl rfl rfl rfl ?_
  refine WR.nil ?_
  refine WK.cond rfl (fun h => (by cases h)) (fun _ => WK.skip ?_)
  refine WK.seq (WK.region ?_)
  refine WR.op rfl rfl rfl rfl ?_
  refine WR.nil ?_
  refine WK.seq (WK.seq (WK.region ?_))
  refine WR.op rfl rfl rfl rfl ?_
  refine WR.op rfl rfl rfl rfl ?_
  refine WR.off rfl rfl rfl rfl rfl ?_
  refine WR.off rfl rfl rfl rfl rfl ?_
  refine WR.op rfl rfl rfl rfl ?_
  refine WR.nil ?_
  refine WK.cond rfl (fun h => (by cases h)) (fun _ => WK.skip ?_)
  refine WK.seq (WK.region ?_)
  refine WR.op rfl rfl rfl rfl ?_
  refine WR.op rfl rfl rfl rfl ?_
  refine WR.op rfl rfl rfl rfl ?_
  refine WR.nil ?_
  have hx3 : Ext st (st2.setObj st.next (.siter [] (0 + 1 + g.length))) := hx2.set (Nat.le_refl _) _
  have hnx3 : (st2.setObj st.next (.siter [] (0 + 1 + g.length))).next = st2.next := by cases st2; rfl
  have hrow3 : IsRow (st2.setObj st.next (.siter [] (0 + 1 + g.length))) x' f' 21 1 [[.int .i32 97]] := by
    rcases hrow with ⟨_, h2⟩ | ⟨m', h1, h2, h3, h4⟩
    · cases h2
    · obtain ⟨t, room, k1, k2⟩ := h4.blk
      have hne : m' ≠ st.next := by
        rintro rfl
        rw [hg2] at k1; cases k1
      refine .inr ⟨m', h1, by omega, by omega, ⟨t, room, by rw [set_get, if_neg hne]; exact k1, k2⟩, ?_⟩
      have : (st2.setObj st.next (.siter [] (0 + 1 + g.length))).fams = st2.fams := by cases st2; rfl
      rw [this]; exact h4.fam
  have hg3 : (st2.setObj st.next (.siter [] (0 + 1 + g.length))).heap.get st.next = some (.siter [] (0 + 1 + g.length)) := by rw [set_get, if_pos rfl]
  -- behind the switch
  have key : ∀ (r : Int) (env : Env) (ks : List Kont), lookE 3 env = some x' → lookE 7 env = some (.int .i32 r) → lookE 10 env = some (.ptr st.next 0) →
      WK (CS sum) 37 none c16app [.block 1, .seq c16loop, .block 0, .seq c16end] env (st2.setObj st.next (.siter [] (0 + 1 + g.length)))
        (fun e env st' => e ≠ .exit 0 ∧ (∀ i, e ≠ .exit i) ∧ ∃ vs, resE (CS sum).P env st' Tryz.f16.results.toList = some vs ∧ (Ext st st' ∧ ∃ f' r, IsRow st' (one vs) f' 21 1 [[.int .i32 97], [.int .i32 r]])) := by
    intro r env ks h3 h7 h10
    refine read_app (st0 := st) h3 h7 hrow3 hx3 (.inr hf2) (by simp) fun x'' st4 f'' hrow4 hx4 hf4 hkeep4 hn4 => ?_
    have hg4 : st4.heap.get st.next = some (.siter [] (0 + 1 + g.length)) := by rw [hkeep4 _ (by rw [hnx3]; omega)]; exact hg3
    refine WK.loop (WK.seq (WK.region ?_))
    refine WR.op rfl rfl (v := .tup [.bool false]) (st' := st4) ?_ rfl ?_
    · refine r_next_end (b := st.next) ?_ hg4
      simp only [evE, lookE_cons, h10]; rfl
    refine WR.op rfl rfl rfl rfl ?_
    refine WR.nil ?_
    refine WK.seq (WK.cond rfl (fun h => (by cases h)) (fun _ => WK.exit ?_))
    refine after.seq_exit (after.seq_exit (after.exit ?_))
    refine WK.seq (WK.region ?_)
    refine WR.op rfl rfl rfl rfl ?_
    refine WR.op rfl rfl rfl rfl ?_
    refine WR.nil ?_
    refine WK.ret ?_
    exact ⟨fun h => (by cases h), fun i h => (by cases h), [x''], by rw [res16]; rfl, hx4, f'', r, hrow4⟩
  refine WK.seq (WK.seq (WK.region ?_))
  refine WR.op rfl rfl rfl rfl ?_
  refine WR.nil ?_
  refine WK.block (WK.seq (WK.seq (WK.region ?_)))
  refine WR.op rfl rfl rfl rfl ?_
  refine WR.op rfl rfl rfl rfl ?_
  refine WR.nil ?_
  refine WK.cond rfl (fun h13 => WK.skip ?_) (fun h13 => WK.region ?_)
  · refine WK.cond rfl (fun _ => WK.region ?_) (fun h => absurd (h13.symm.trans h) (by simp))
    refine WR.op rfl rfl rfl rfl ?_
    refine WR.nil ?_
    exact key 10 _ [] rfl rfl rfl
  · refine WR.op rfl rfl rfl rfl ?_
    refine WR.op rfl rfl rfl rfl ?_
    refine WR.nil ?_
    refine WK.cond rfl (fun _ => WK.region ?_) (fun _ => WK.seq (WK.region ?_))
    · refine WR.op rfl rfl rfl rfl ?_
      refine WR.nil ?_
      exact key 10 _ [] rfl rfl rfl
    · refine WR.op rfl rfl rfl rfl ?_
      refine WR.op rfl rfl rfl rfl ?_
      refine WR.nil ?_
      refine WK.cond rfl (fun _ => WK.region ?_) (fun _ => WK.skip ?_)
      · refine WR.op rfl rfl rfl rfl ?_
        refine WR.nil ?_
        exact key 65533 _ [] rfl rfl rfl
      · exact key c _ [] rfl rfl rfl
end Go.Proofs.Tz
