/- strings.Join. -/
import Derived.Test.YtjnahfpnehmehaaGreatDoorCnt3
import Derived.Test.YtjnahfpnehmehaaGreatDoorReg15
namespace Go.Proofs.Tz
open Go Go.AE Go.RowKit Go.Proofs
set_option maxRecDepth 100000
variable {sum : FuncId → List AV → St → Option (AV × St)}
/-- Each text with `sep` ahead of it. -/
def joinT (sep : List UInt8) : List (List UInt8) → List UInt8
  | [] => []
  | t :: r => sep ++ (t ++ joinT sep r)
def joinS (sep : List UInt8) : List (List UInt8) → List UInt8
  | [] => []
  | t :: r => t ++ joinT sep r
def txC (t : List UInt8) : List AV := [.str t]
def sumL : List (List UInt8) → Nat
  | [] => 0
  | t :: r => t.length + sumL r
theorem joinT_app (sep : List UInt8) (t : List UInt8) : ∀ l : List (List UInt8), joinT sep (l ++ [t]) = joinT sep l ++ (sep ++ t)
  | [] => by simp [joinT]
  | a :: l => by rw [List.cons_append, joinT, joinT_app sep t l, joinT]; simp [List.append_assoc]
theorem sumL_app (t : List UInt8) : ∀ l : List (List UInt8), sumL (l ++ [t]) = sumL l + t.length
  | [] => by simp [sumL]
  | a :: l => by rw [List.cons_append, sumL, sumL_app t l, sumL]; omega
theorem sumL_app2 (r : List (List UInt8)) : ∀ l : List (List UInt8), sumL (l ++ r) = sumL l + sumL r
  | [] => by simp [sumL]
  | a :: l => by rw [List.cons_append, sumL, sumL_app2 r l, sumL]; omega
theorem joinT_len (sep : List UInt8) : ∀ l : List (List UInt8), (joinT sep l).length = sumL l + sep.length * l.length
  | [] => by simp [joinT, sumL]
  | a :: l => by
    rw [joinT, List.length_append, List.length_append, joinT_len sep l, sumL, List.length_cons, Nat.mul_add, Nat.mul_one]; omega
/-- Signs written, if any. -/
theorem writeAny_ok (hs : ∀ f ∈ [42, 77, 117], ∀ xs st, sum f xs st = none) {b f : Nat} {l s : List UInt8} {st0 st : St} (h : BldG st0.next st b f l) (h0 : Ext st0 st) (hb : st0.next ≤ b) (hl : l.length + s.length ≤ 1000000) :
    CallW (CS sum) 42 [.ptr b 0, .str s] st fun _ st' => (∃ f', BldG st0.next st' b f' (l ++ s)) ∧ Ext st0 st' := by
  match s, hl with
  | [], _ => exact (writeNil_ok hs h h0 hb).mono fun _ _ ⟨h1, h2, _⟩ => ⟨⟨f, by rw [List.append_nil]; exact h1⟩, h2⟩
  | c :: s, hl => exact (writeStringG_ok hs h h0 hb (by simp) hl).mono fun _ _ ⟨⟨f', h1⟩, h2, _⟩ => ⟨⟨f', h1.g⟩, h2⟩
theorem ieqb_F {a b : Int} (h : a ≠ b) : ieqb a b = false := by rw [ieqb_eq]; simp [h]
theorem add_0 {n m : Nat} (h : n ≤ 1000000) (e : m = n) : intBin .add .i64 (0 : Int) (m : Int) = some (.int .i64 (n : Int)) := by
  subst e
  have := add_nat (a := 0) (b := m) (by omega)
  rw [Nat.zero_add] at this
  exact this
theorem r_slice1 {ρ : Rho} {st : St} {x y : Operand} {m n f : Nat} {l : List (List AV)} (hx : ρ x = some (.slc m 0 n none)) (hy : ρ y = some (.int .i64 1)) (hr : RowAt st m f 9 1 l) (hn : l.length = n) (h2 : 2 ≤ n) : aopR Tryz.prog ρ st (.slice 31 x (some y) none none) = some (.slc m 1 (n - 1) none, st) := by
  obtain ⟨t, room, k1, _⟩ := hr.cells
  have hk : (Nat.mul (max room l.length) 1 - 0) / 1 = max room l.length := by
    show (max room l.length * 1 - 0) / 1 = _
    rw [Nat.div_one]; omega
  have hb : bound (some (.int .i64 1)) n 0 = some 1 := by
    show cnd (decide ((0 : Int) ≤ 1) && Nat.ble 1 n) (some 1) none = _
    rw [ble_true.2 (by omega)]; rfl
  have hg : (Nat.ble n (max room l.length) && (Nat.beq 1 0 || Nat.blt 1 (max room l.length))) = true := by
    rw [ble_true.2 (by omega), blt_true.2 (by omega)]; rfl
  have h1 : sliceOpen m 0 n 1 (Nat.beq 1 1 && isOpn (.opn f)) ((Nat.mul (max room l.length) 1 - 0) / 1) (some (.int .i64 1)) none none = some (.slc m 1 (n - 1) none) := by
    rw [hk]
    have hbn : ∀ a b : Nat, bound none a b = some b := fun _ _ => rfl
    simp only [sliceOpen, show (Nat.beq 1 1 && isOpn (.opn f)) = true from rfl, cond_true, hbn, bnd_some, hb, hg]
    rfl
  have h3 : sliceSlc st 1 m 0 n none (some (.int .i64 1)) none none = some (.slc m 1 (n - 1) none) := by
    unfold sliceSlc
    simp only [k1, bnd_some]
    exact h1
  simp only [aopR, evOR, hx, hy, bnd_some, sliceOp, un31, sz9]
  show ((cnd (Nat.ble 1 1) (sliceSlc st 1 m 0 n none (some (.int .i64 1)) none none) none).bnd _) = _
  rw [h3]; rfl
/-- strings.Join -/
def c53 : SC := (.seq (.region [⟨.assign (.const (.string ⟨#[]⟩)), some 4, none⟩])
  (.seq (.seq (.region [⟨.move (.tmp 0), some 11, none⟩, ⟨.call ⟨.builtin .len, #[(.tmp 11)], #[31]⟩, some 12, none⟩])
  (.block 0 (.seq (.region [⟨.binOp .eql 3 (.tmp 12) (.const (.int .i64 0)) 3, some 14, none⟩, ⟨.assign (.tmp 14), some 13, none⟩])
  (.cond (.tmp 13) (.seq (.region [⟨.assign (.const (.string ⟨#[]⟩)), some 4, none⟩])
  .ret) (.seq (.region [⟨.binOp .eql 3 (.tmp 12) (.const (.int .i64 1)) 3, some 16, none⟩, ⟨.assign (.tmp 16), some 15, none⟩])
  (.cond (.tmp 15) (.seq (.region [⟨.move (.tmp 0), some 17, none⟩, ⟨.indexAddr 31 (.tmp 17) (.const (.int .i64 0)), some 18, none⟩, ⟨.load 9 (.tmp 18), some 19, none⟩, ⟨.assign (.tmp 19), some 4, none⟩])
  .ret) .skip))))))
  (.seq (.region [⟨.assign (.const (.int .i64 0)), some 5, none⟩])
  (.seq (.seq (.region [⟨.move (.tmp 1), some 20, none⟩, ⟨.call ⟨.builtin .len, #[(.tmp 20)], #[9]⟩, some 21, none⟩, ⟨.binOp .gtr 3 (.tmp 21) (.const (.int .i64 0)) 3, some 22, none⟩])
  (.cond (.tmp 22) (.seq (.seq (.region [⟨.move (.tmp 1), some 23, none⟩, ⟨.call ⟨.builtin .len, #[(.tmp 23)], #[9]⟩, some 24, none⟩, ⟨.move (.tmp 0), some 25, none⟩, ⟨.call ⟨.builtin .len, #[(.tmp 25)], #[31]⟩, some 26, none⟩, ⟨.binOp .sub 3 (.tmp 26) (.const (.int .i64 1)) 3, some 27, none⟩, ⟨.binOp .quo 3 (.const (.int .i64 9223372036854775807)) (.tmp 27) 3, some 28, none⟩, ⟨.binOp .geq 3 (.tmp 24) (.tmp 28) 3, some 29, none⟩])
  (.cond (.tmp 29) (.region [⟨.makeInterface 9 (.const (.string ⟨#[115, 116, 114, 105, 110, 103, 115, 58, 32, 74, 111, 105, 110, 32, 111, 117, 116, 112, 117, 116, 32, 108, 101, 110, 103, 116, 104, 32, 111, 118, 101, 114, 102, 108, 111, 119]⟩)), some 30, none⟩, ⟨.panic (.tmp 30), none, none⟩]) .skip))
  (.region [⟨.move (.tmp 5), some 31, none⟩, ⟨.move (.tmp 1), some 32, none⟩, ⟨.call ⟨.builtin .len, #[(.tmp 32)], #[9]⟩, some 33, none⟩, ⟨.move (.tmp 0), some 34, none⟩, ⟨.call ⟨.builtin .len, #[(.tmp 34)], #[31]⟩, some 35, none⟩, ⟨.binOp .sub 3 (.tmp 35) (.const (.int .i64 1)) 3, some 36, none⟩, ⟨.binOp .mul 3 (.tmp 33) (.tmp 36) 3, some 37, none⟩, ⟨.binOp .add 3 (.tmp 31) (.tmp 37) 3, some 38, none⟩, ⟨.assign (.tmp 38), some 5, none⟩])) .skip))
  (.seq (.seq (.region [⟨.move (.tmp 0), some 39, none⟩, ⟨.call ⟨.builtin .len, #[(.tmp 39)], #[31]⟩, some 40, none⟩, ⟨.move (.const (.int .i64 0)), some 41, none⟩])
  (.block 1 (.loop (.seq (.region [⟨.binOp .lss 3 (.tmp 41) (.tmp 40) 3, some 42, none⟩])
  (.seq (.cond (.tmp 42) .skip (.exit 1))
  (.seq (.block 2 (.seq (.region [⟨.indexAddr 31 (.tmp 39) (.tmp 41), some 43, none⟩, ⟨.load 9 (.tmp 43), some 44, none⟩, ⟨.assign (.tmp 44), some 7, none⟩])
  (.seq (.seq (.region [⟨.move (.tmp 7), some 45, none⟩, ⟨.call ⟨.builtin .len, #[(.tmp 45)], #[9]⟩, some 46, none⟩, ⟨.move (.tmp 5), some 47, none⟩, ⟨.binOp .sub 3 (.const (.int .i64 9223372036854775807)) (.tmp 47) 3, some 48, none⟩, ⟨.binOp .gtr 3 (.tmp 46) (.tmp 48) 3, some 49, none⟩])
  (.cond (.tmp 49) (.region [⟨.makeInterface 9 (.const (.string ⟨#[115, 116, 114, 105, 110, 103, 115, 58, 32, 74, 111, 105, 110, 32, 111, 117, 116, 112, 117, 116, 32, 108, 101, 110, 103, 116, 104, 32, 111, 118, 101, 114, 102, 108, 111, 119]⟩)), some 50, none⟩, ⟨.panic (.tmp 50), none, none⟩]) .skip))
  (.region [⟨.move (.tmp 5), some 51, none⟩, ⟨.move (.tmp 7), some 52, none⟩, ⟨.call ⟨.builtin .len, #[(.tmp 52)], #[9]⟩, some 53, none⟩, ⟨.binOp .add 3 (.tmp 51) (.tmp 53) 3, some 54, none⟩, ⟨.assign (.tmp 54), some 5, none⟩]))))
  (.region [⟨.binOp .add 3 (.tmp 41) (.const (.int .i64 1)) 3, some 55, none⟩, ⟨.move (.tmp 55), some 41, none⟩])))))))
  (.seq (.region [⟨.alloc 106, some 8, none⟩])
  (.seq (.region [⟨.move (.tmp 5), some 56, none⟩, ⟨.call ⟨.value (.func 82), #[(.tmp 8), (.tmp 56)], #[106, 3]⟩, some 57, none⟩])
  (.seq (.region [⟨.move (.tmp 0), some 58, none⟩, ⟨.indexAddr 31 (.tmp 58) (.const (.int .i64 0)), some 59, none⟩, ⟨.load 9 (.tmp 59), some 60, none⟩, ⟨.call ⟨.value (.func 42), #[(.tmp 8), (.tmp 60)], #[106, 9]⟩, some 61, none⟩])
  (.seq (.seq (.region [⟨.move (.tmp 0), some 62, none⟩, ⟨.slice 31 (.tmp 62) (some (.const (.int .i64 1))) none none, some 63, none⟩, ⟨.call ⟨.builtin .len, #[(.tmp 63)], #[31]⟩, some 64, none⟩, ⟨.move (.const (.int .i64 0)), some 65, none⟩])
  (.block 3 (.loop (.seq (.region [⟨.binOp .lss 3 (.tmp 65) (.tmp 64) 3, some 66, none⟩])
  (.seq (.cond (.tmp 66) .skip (.exit 3))
  (.seq (.block 4 (.seq (.region [⟨.indexAddr 31 (.tmp 63) (.tmp 65), some 67, none⟩, ⟨.load 9 (.tmp 67), some 68, none⟩, ⟨.assign (.tmp 68), some 10, none⟩])
  (.seq (.region [⟨.move (.tmp 1), some 69, none⟩, ⟨.call ⟨.value (.func 42), #[(.tmp 8), (.tmp 69)], #[106, 9]⟩, some 70, none⟩])
  (.region [⟨.move (.tmp 10), some 71, none⟩, ⟨.call ⟨.value (.func 42), #[(.tmp 8), (.tmp 71)], #[106, 9]⟩, some 72, none⟩]))))
  (.region [⟨.binOp .add 3 (.tmp 65) (.const (.int .i64 1)) 3, some 73, none⟩, ⟨.move (.tmp 73), some 65, none⟩])))))))
  (.seq (.region [⟨.call ⟨.value (.func 43), #[(.tmp 8)], #[106]⟩, some 74, none⟩, ⟨.assign (.tmp 74), some 4, none⟩])
  .ret))))))))))
theorem c53_of : SC.of Tryz.f53.body.get! = c53 := by kernel_rfl
theorem body53 : Tryz.f53.body = some (Tryz.f53.body.get!) := by kernel_rfl
theorem nt53 : Tryz.f53.ntmps = 75 := by kernel_rfl
theorem res53 : Tryz.f53.results.toList = [.tmp 4] := by kernel_rfl
def c53loop1 : SC := (.loop (.seq (.region [⟨.binOp .lss 3 (.tmp 41) (.tmp 40) 3, some 42, none⟩])
  (.seq (.cond (.tmp 42) .skip (.exit 1))
  (.seq (.block 2 (.seq (.region [⟨.indexAddr 31 (.tmp 39) (.tmp 41), some 43, none⟩, ⟨.load 9 (.tmp 43), some 44, none⟩, ⟨.assign (.tmp 44), some 7, none⟩])
  (.seq (.seq (.region [⟨.move (.tmp 7), some 45, none⟩, ⟨.call ⟨.builtin .len, #[(.tmp 45)], #[9]⟩, some 46, none⟩, ⟨.move (.tmp 5), some 47, none⟩, ⟨.binOp .sub 3 (.const (.int .i64 9223372036854775807)) (.tmp 47) 3, some 48, none⟩, ⟨.binOp .gtr 3 (.tmp 46) (.tmp 48) 3, some 49, none⟩])
  (.cond (.tmp 49) (.region [⟨.makeInterface 9 (.const (.string ⟨#[115, 116, 114, 105, 110, 103, 115, 58, 32, 74, 111, 105, 110, 32, 111, 117, 116, 112, 117, 116, 32, 108, 101, 110, 103, 116, 104, 32, 111, 118, 101, 114, 102, 108, 111, 119]⟩)), some 50, none⟩, ⟨.panic (.tmp 50), none, none⟩]) .skip))
  (.region [⟨.move (.tmp 5), some 51, none⟩, ⟨.move (.tmp 7), some 52, none⟩, ⟨.call ⟨.builtin .len, #[(.tmp 52)], #[9]⟩, some 53, none⟩, ⟨.binOp .add 3 (.tmp 51) (.tmp 53) 3, some 54, none⟩, ⟨.assign (.tmp 54), some 5, none⟩]))))
  (.region [⟨.binOp .add 3 (.tmp 41) (.const (.int .i64 1)) 3, some 55, none⟩, ⟨.move (.tmp 55), some 41, none⟩])))))
def c53loop2 : SC := (.loop (.seq (.region [⟨.binOp .lss 3 (.tmp 65) (.tmp 64) 3, some 66, none⟩])
  (.seq (.cond (.tmp 66) .skip (.exit 3))
  (.seq (.block 4 (.seq (.region [⟨.indexAddr 31 (.tmp 63) (.tmp 65), some 67, none⟩, ⟨.load 9 (.tmp 67), some 68, none⟩, ⟨.assign (.tmp 68), some 10, none⟩])
  (.seq (.region [⟨.move (.tmp 1), some 69, none⟩, ⟨.call ⟨.value (.func 42), #[(.tmp 8), (.tmp 69)], #[106, 9]⟩, some 70, none⟩])
  (.region [⟨.move (.tmp 10), some 71, none⟩, ⟨.call ⟨.value (.func 42), #[(.tmp 8), (.tmp 71)], #[106, 9]⟩, some 72, none⟩]))))
  (.region [⟨.binOp .add 3 (.tmp 65) (.const (.int .i64 1)) 3, some 73, none⟩, ⟨.move (.tmp 73), some 65, none⟩])))))
theorem join_size {x : AV} {f k : Nat} {sep : List UInt8} {ts : List (List UInt8)} {st : St} (hx : IsRow st x f 9 1 (ts.map txC)) (hk : k + sumL ts ≤ 1000000) (hlen : ts.length ≤ 1000) {ks : List Kont} {Q : Post3} : ∀ (r pre : List (List UInt8)), pre ++ r = ts →
    ∀ env, lookE 0 env = some x → lookE 1 env = some (.str sep) → lookE 5 env = some (.int .i64 ((k + sumL pre : Nat) : Int)) → lookE 39 env = some x → lookE 40 env = some (.int .i64 (ts.length : Int)) → lookE 41 env = some (.int .i64 (pre.length : Int)) →
    (∀ env', lookE 0 env' = some x → lookE 1 env' = some (.str sep) → lookE 5 env' = some (.int .i64 ((k + sumL ts : Nat) : Int)) → after (CS sum) 75 none ks Q .normal env' st) →
    WK (CS sum) 75 none c53loop1 (.block 1 :: ks) env st Q := by
  intro r
  induction r with
  | nil =>
    intro pre hpre env h0 h1 h5 h39 h40 h41 hfin
    have hpl : pre = ts := by rw [← hpre, List.append_nil]
    refine WK.sub [(0, x), (1, .str sep), (5, .int .i64 ((k + sumL pre : Nat) : Int)), (39, x), (40, .int .i64 (ts.length : Int)), (41, .int .i64 (pre.length : Int))] ?_ ?_
    · intro t v ht
      simp only [lookE_cons] at ht
      by_cases e0 : t = 0
      · rw [if_pos e0] at ht; subst e0; rw [h0]; exact ht
      rw [if_neg e0] at ht
      by_cases e1 : t = 1
      · rw [if_pos e1] at ht; subst e1; rw [h1]; exact ht
      rw [if_neg e1] at ht
      by_cases e5 : t = 5
      · rw [if_pos e5] at ht; subst e5; rw [h5]; exact ht
      rw [if_neg e5] at ht
      by_cases e39 : t = 39
      · rw [if_pos e39] at ht; subst e39; rw [h39]; exact ht
      rw [if_neg e39] at ht
      by_cases e40 : t = 40
      · rw [if_pos e40] at ht; subst e40; rw [h40]; exact ht
      rw [if_neg e40] at ht
      by_cases e41 : t = 41
      · rw [if_pos e41] at ht; subst e41; rw [h41]; exact ht
      rw [if_neg e41] at ht
      cases ht
    unfold c53loop1
    refine WK.loop ?_
    refine WK.seq ?_
    refine WK.region ?_
    refine WR.op rfl rfl (r_lss rfl rfl (iltb_F (by rw [hpl]; omega))) rfl ?_
    refine WR.nil ?_
    refine after.seq ?_
    refine WK.seq ?_
    refine WK.cond rfl (fun h => (by cases h)) (fun _ => ?_)
    refine WK.exit ?_
    refine after.seq_exit ?_
    refine after.seq_exit ?_
    refine after.exit ?_
    exact hfin _ rfl rfl (by rw [← hpl]; rfl)
  | cons t r ih =>
    intro pre hpre env h0 h1 h5 h39 h40 h41 hfin
    have hpl : ts.length = pre.length + (r.length + 1) := by rw [← hpre]; simp
    have hsl : sumL ts = sumL pre + (t.length + sumL r) := by rw [← hpre, sumL_app2]; rfl
    have hml : (ts.map txC).length = ts.length := List.length_map _
    obtain ⟨mm, off, hia, hla⟩ := hx.els.at (n := pre.length) un31 sz9 (by omega)
    have hget : (ts.map txC)[pre.length]? = some (txC t) := by rw [List.getElem?_map, ← hpre]; simp
    refine WK.sub [(0, x), (1, .str sep), (5, .int .i64 ((k + sumL pre : Nat) : Int)), (39, x), (40, .int .i64 (ts.length : Int)), (41, .int .i64 (pre.length : Int))] ?_ ?_
    · intro t v ht
      simp only [lookE_cons] at ht
      by_cases e0 : t = 0
      · rw [if_pos e0] at ht; subst e0; rw [h0]; exact ht
      rw [if_neg e0] at ht
      by_cases e1 : t = 1
      · rw [if_pos e1] at ht; subst e1; rw [h1]; exact ht
      rw [if_neg e1] at ht
      by_cases e5 : t = 5
      · rw [if_pos e5] at ht; subst e5; rw [h5]; exact ht
      rw [if_neg e5] at ht
      by_cases e39 : t = 39
      · rw [if_pos e39] at ht; subst e39; rw [h39]; exact ht
      rw [if_neg e39] at ht
      by_cases e40 : t = 40
      · rw [if_pos e40] at ht; subst e40; rw [h40]; exact ht
      rw [if_neg e40] at ht
      by_cases e41 : t = 41
      · rw [if_pos e41] at ht; subst e41; rw [h41]; exact ht
      rw [if_neg e41] at ht
      cases ht
    unfold c53loop1
    refine WK.loop ?_
    refine WK.seq ?_
    refine WK.region ?_
    refine WR.op rfl rfl (r_lss rfl rfl (iltb_T (by omega))) rfl ?_
    refine WR.nil ?_
    refine after.seq ?_
    refine WK.seq ?_
    refine WK.cond rfl (fun _ => ?_) (fun h => (by cases h))
    refine WK.skip ?_
    refine after.seq ?_
    refine WK.seq ?_
    refine WK.block ?_
    refine WK.seq ?_
    refine WK.region ?_
    refine WR.op rfl rfl (hia rfl rfl) rfl ?_
    refine WR.op rfl rfl ((hla _ hget rfl _ _ _ rfl).1 agg9 _ rfl) rfl ?_
    refine WR.op rfl rfl rfl rfl ?_
    refine WR.nil ?_
    refine after.seq ?_
    refine WK.seq ?_
    refine WK.seq ?_
    refine WK.region ?_
    refine WR.op rfl rfl rfl rfl ?_
    refine WR.op rfl rfl (r_len_str un9 rfl) rfl ?_
    refine WR.op rfl rfl rfl rfl ?_
    refine WR.op rfl rfl (r_arith ⟨by decide, by decide⟩ rfl rfl (sub_nat (a := 9223372036854775807) (by omega) (by omega))) rfl ?_
    refine WR.op rfl rfl (r_gtr rfl rfl (iltb_F (by omega))) rfl ?_
    refine WR.nil ?_
    refine after.seq ?_
    refine WK.cond rfl (fun h => (by cases h)) (fun _ => ?_)
    refine WK.skip ?_
    refine after.seq ?_
    refine WK.region ?_
    refine WR.op rfl rfl rfl rfl ?_
    refine WR.op rfl rfl rfl rfl ?_
    refine WR.op rfl rfl (r_len_str un9 rfl) rfl ?_
    refine WR.op rfl rfl (r_arith ⟨by decide, by decide⟩ rfl rfl (add_nat (by omega))) rfl ?_
    refine WR.op rfl rfl rfl rfl ?_
    refine WR.nil ?_
    refine after.block ?_
    refine after.seq ?_
    refine WK.region ?_
    refine WR.op rfl rfl (r_arith ⟨by decide, by decide⟩ rfl rfl (add_nat (b := 1) (by omega))) rfl ?_
    refine WR.op rfl rfl rfl rfl ?_
    refine WR.nil ?_
    refine after.seq ?_
    exact ih (pre ++ [t]) (by rw [← hpre]; simp) _ rfl rfl (by rw [sumL_app, ← Nat.add_assoc]; rfl) rfl rfl (by rw [List.length_append]; rfl) hfin
theorem join_write (hs : ∀ f ∈ [42, 77, 117], ∀ xs st, sum f xs st = none) {m f b : Nat} {sep t0 : List UInt8} {rest : List (List UInt8)} {st0 : St} (hrow : RowAt st0 m f 9 1 ((t0 :: rest).map txC)) (hm : m < st0.next) (hf : f < st0.next) (hb : st0.next ≤ b) (hlen : rest.length ≤ 1000) (htot : t0.length + (joinT sep rest).length ≤ 1000000) {ks : List Kont} {Q : Post3} : ∀ (r pre : List (List UInt8)), pre ++ r = rest → ∀ (fb : Nat) (st : St), Ext st0 st → BldG st0.next st b fb (t0 ++ joinT sep pre) →
    ∀ env, lookE 1 env = some (.str sep) → lookE 8 env = some (.ptr b 0) → lookE 63 env = some (.slc m 1 rest.length none) → lookE 64 env = some (.int .i64 (rest.length : Int)) → lookE 65 env = some (.int .i64 (pre.length : Int)) →
    (∀ env' fb' st2, lookE 8 env' = some (.ptr b 0) → Ext st0 st2 → BldG st0.next st2 b fb' (t0 ++ joinT sep rest) → after (CS sum) 75 none ks Q .normal env' st2) →
    WK (CS sum) 75 none c53loop2 (.block 3 :: ks) env st Q := by
  intro r
  induction r with
  | nil =>
    intro pre hpre fb st hext hbl env h1 h8 h63 h64 h65 hfin
    have hpl : pre = rest := by rw [← hpre, List.append_nil]
    refine WK.sub [(1, .str sep), (8, .ptr b 0), (63, .slc m 1 rest.length none), (64, .int .i64 (rest.length : Int)), (65, .int .i64 (pre.length : Int))] ?_ ?_
    · intro t v ht
      simp only [lookE_cons] at ht
      by_cases e1 : t = 1
      · rw [if_pos e1] at ht; subst e1; rw [h1]; exact ht
      rw [if_neg e1] at ht
      by_cases e8 : t = 8
      · rw [if_pos e8] at ht; subst e8; rw [h8]; exact ht
      rw [if_neg e8] at ht
      by_cases e63 : t = 63
      · rw [if_pos e63] at ht; subst e63; rw [h63]; exact ht
      rw [if_neg e63] at ht
      by_cases e64 : t = 64
      · rw [if_pos e64] at ht; subst e64; rw [h64]; exact ht
      rw [if_neg e64] at ht
      by_cases e65 : t = 65
      · rw [if_pos e65] at ht; subst e65; rw [h65]; exact ht
      rw [if_neg e65] at ht
      cases ht
    unfold c53loop2
    refine WK.loop ?_
    refine WK.seq ?_
    refine WK.region ?_
    refine WR.op rfl rfl (r_lss rfl rfl (iltb_F (by rw [hpl]; omega))) rfl ?_
    refine WR.nil ?_
    refine after.seq ?_
    refine WK.seq ?_
    refine WK.cond rfl (fun h => (by cases h)) (fun _ => ?_)
    refine WK.exit ?_
    refine after.seq_exit ?_
    refine after.seq_exit ?_
    refine after.exit ?_
    exact hfin _ fb st rfl hext (by rw [← hpl]; exact hbl)
  | cons t r ih =>
    intro pre hpre fb st hext hbl env h1 h8 h63 h64 h65 hfin
    have hpl : rest.length = pre.length + (r.length + 1) := by rw [← hpre]; simp
    have hget : ((t0 :: rest).map txC)[Nat.add 1 (Nat.mul pre.length 1)]? = some [.str t] := by
      have e : Nat.add 1 (Nat.mul pre.length 1) = pre.length + 1 := by
        show 1 + pre.length * 1 = _
        omega
      rw [e, List.map_cons, List.getElem?_cons_succ, List.getElem?_map, ← hpre]
      simp [txC]
    have hjl : (joinT sep rest).length = (joinT sep pre).length + (sep.length + t.length) + (joinT sep r).length := by
      have hsr : rest = (pre ++ [t]) ++ r := by rw [← hpre]; simp
      rw [joinT_len, hsr, sumL_app2, sumL_app, joinT_len, joinT_len, List.length_append, List.length_append, List.length_singleton, Nat.mul_add, Nat.mul_add]; omega
    have hl1 := hrow.ext hext hm hf
    refine WK.sub [(1, .str sep), (8, .ptr b 0), (63, .slc m 1 rest.length none), (64, .int .i64 (rest.length : Int)), (65, .int .i64 (pre.length : Int))] ?_ ?_
    · intro t v ht
      simp only [lookE_cons] at ht
      by_cases e1 : t = 1
      · rw [if_pos e1] at ht; subst e1; rw [h1]; exact ht
      rw [if_neg e1] at ht
      by_cases e8 : t = 8
      · rw [if_pos e8] at ht; subst e8; rw [h8]; exact ht
      rw [if_neg e8] at ht
      by_cases e63 : t = 63
      · rw [if_pos e63] at ht; subst e63; rw [h63]; exact ht
      rw [if_neg e63] at ht
      by_cases e64 : t = 64
      · rw [if_pos e64] at ht; subst e64; rw [h64]; exact ht
      rw [if_neg e64] at ht
      by_cases e65 : t = 65
      · rw [if_pos e65] at ht; subst e65; rw [h65]; exact ht
      rw [if_neg e65] at ht
      cases ht
    unfold c53loop2
    refine WK.loop ?_
    refine WK.seq ?_
    refine WK.region ?_
    refine WR.op rfl rfl (r_lss rfl rfl (iltb_T (by omega))) rfl ?_
    refine WR.nil ?_
    refine after.seq ?_
    refine WK.seq ?_
    refine WK.cond rfl (fun _ => ?_) (fun h => (by cases h))
    refine WK.skip ?_
    refine after.seq ?_
    refine WK.seq ?_
    refine WK.block ?_
    refine WK.seq ?_
    refine WK.region ?_
    refine WR.op rfl rfl (r_idx un31 sz9 rfl rfl (by omega)) rfl ?_
    refine WR.op rfl rfl (r_load1 agg9 rfl (hl1.load1 hget)) rfl ?_
    refine WR.op rfl rfl rfl rfl ?_
    refine WR.nil ?_
    refine after.seq ?_
    refine WK.seq ?_
    refine WK.region ?_
    refine WR.op rfl rfl rfl rfl ?_
    refine WR.call (f := 42) («as» := [.ptr b 0, .str sep]) rfl (.inl rfl) rfl rfl rfl rfl ((writeAny_ok hs hbl hext hb (by rw [List.length_append]; omega)).mono ?_)
    rintro v1 st1 ⟨⟨f1, k1⟩, k2⟩
    refine WR.nil ?_
    refine after.seq ?_
    refine WK.region ?_
    refine WR.op rfl rfl rfl rfl ?_
    refine WR.call (f := 42) («as» := [.ptr b 0, .str t]) rfl (.inl rfl) rfl rfl rfl rfl ((writeAny_ok hs k1 k2 hb (by rw [List.length_append, List.length_append]; omega)).mono ?_)
    rintro v2 st2 ⟨⟨f2, k3⟩, k4⟩
    refine WR.nil ?_
    refine after.block ?_
    refine after.seq ?_
    refine WK.region ?_
    refine WR.op rfl rfl (r_arith ⟨by decide, by decide⟩ rfl rfl (add_nat (b := 1) (by omega))) rfl ?_
    refine WR.op rfl rfl rfl rfl ?_
    refine WR.nil ?_
    refine after.seq ?_
    exact ih (pre ++ [t]) (by rw [← hpre]; simp) f2 st2 k4 (by rw [joinT_app, ← List.append_assoc, ← List.append_assoc]; exact k3) _ rfl rfl rfl rfl (by rw [List.length_append]; rfl) hfin
theorem join_ok (hs : ∀ f ∈ [53, 42, 43, 77, 117, 82, 125, 165], ∀ xs st, sum f xs st = none) {x : AV} {f : Nat} {sep t0 : List UInt8} {rest : List (List UInt8)} {st : St} (hx : IsRow st x f 9 1 ((t0 :: rest).map txC)) (hne : t0 ≠ []) (hlen : rest.length ≤ 900) (htot : t0.length + (joinT sep rest).length ≤ 1000000) :
    CallW (CS sum) 53 [x, .str sep] st fun v st' => v = .str (joinS sep (t0 :: rest)) ∧ Ext st st' := by
  obtain ⟨m, rfl, hm, hf, hrow⟩ : ∃ m, x = .slc m 0 (rest.length + 1) none ∧ m < st.next ∧ f < st.next ∧ RowAt st m f 9 1 ((t0 :: rest).map txC) := by
    rcases hx with ⟨_, h⟩ | ⟨m, h1, h2, h3, h4⟩
    · cases h
    · exact ⟨m, by rw [h1, List.length_map]; rfl, h2, h3, h4⟩
  have hx0 : IsRow st (.slc m 0 (rest.length + 1) none) f 9 1 ((t0 :: rest).map txC) := .inr ⟨m, by rw [List.length_map]; rfl, hm, hf, hrow⟩
  have hln : ∀ {ρ : Rho} {y : Operand} {st2 : St}, ρ y = some (.slc m 0 (rest.length + 1) none) → aopR Tryz.prog ρ st2 (.call ⟨.builtin .len, #[y], #[31]⟩) = some (.int .i64 ((rest.length + 1 : Nat) : Int), st2) := by
    intro ρ y st2 hy
    simp only [aopR, evsR, hy, bnd_some, builtinOp, lenB, un31]
  have hp1 : 1 ≤ t0.length := by
    cases t0 with
    | nil => exact absurd rfl hne
    | cons a l => simp
  have hjl := joinT_len sep rest
  have hget0 : ((t0 :: rest).map txC)[Nat.add 0 (Nat.mul 0 1)]? = some [.str t0] := rfl
  by_cases hr : rest = []
  · subst hr
    refine CallW.enter (hs 53 (by simp) _ _) Tryz.func53 body53 c53_of rfl ?_
    rw [nt53]
    unfold c53
    refine WK.seq ?_
    refine WK.region ?_
    refine WR.op rfl rfl rfl rfl ?_
    refine WR.nil ?_
    refine after.seq ?_
    refine WK.seq ?_
    refine WK.seq ?_
    refine WK.region ?_
    refine WR.op rfl rfl rfl rfl ?_
    refine WR.op rfl rfl (hln rfl) rfl ?_
    refine WR.nil ?_
    refine after.seq ?_
    refine WK.block ?_
    refine WK.seq ?_
    refine WK.region ?_
    refine WR.op rfl rfl (r_eql rfl rfl (q := false) rfl) rfl ?_
    refine WR.op rfl rfl rfl rfl ?_
    refine WR.nil ?_
    refine after.seq ?_
    refine WK.cond rfl (fun h => (by cases h)) (fun _ => ?_)
    refine WK.seq ?_
    refine WK.region ?_
    refine WR.op rfl rfl (r_eql rfl rfl (q := true) rfl) rfl ?_
    refine WR.op rfl rfl rfl rfl ?_
    refine WR.nil ?_
    refine after.seq ?_
    refine WK.cond rfl (fun _ => ?_) (fun h => (by cases h))
    refine WK.seq ?_
    refine WK.region ?_
    refine WR.op rfl rfl rfl rfl ?_
    refine WR.op rfl rfl (r_idx (n := 0) un31 sz9 rfl rfl (by simp)) rfl ?_
    refine WR.op rfl rfl (r_load1 agg9 rfl (hrow.load1 hget0)) rfl ?_
    refine WR.op rfl rfl rfl rfl ?_
    refine WR.nil ?_
    refine after.seq ?_
    refine WK.ret ?_
    refine after.block_ret ?_
    refine after.seq_ret ?_
    exact ⟨ret_ne 0, ret_ne, [.str t0], (by rw [res53]; rfl), (by show AV.str t0 = .str (t0 ++ []); rw [List.append_nil]), Ext.refl st⟩
  have hr1 : 1 ≤ rest.length := by
    cases rest with
    | nil => exact absurd rfl hr
    | cons a l => simp
  have hrm : sep.length ≤ sep.length * rest.length := Nat.le_mul_of_pos_right _ hr1
  have hmul : sep.length * (rest.length + 1 - 1) = sep.length * rest.length := rfl
  have hq : 10000000000000000 ≤ 9223372036854775807 / rest.length := by
    rw [Nat.le_div_iff_mul_le (by omega)]
    omega
  have htt : sep.length * rest.length + sumL (t0 :: rest) ≤ 1000000 := by
    show sep.length * rest.length + (t0.length + sumL rest) ≤ _
    omega
  have hst0 : 1 ≤ sumL (t0 :: rest) := by
    show 1 ≤ t0.length + sumL rest
    omega
  obtain ⟨st1, hst1⟩ : ∃ s, s = st.push (boxO 106 (.agg [.nilp, .nils])) := ⟨_, rfl⟩
  have hx1 : Ext st st1 := by rw [hst1]; exact (Ext.refl st).push _
  have hn1 : st1.next = st.next + 1 := by rw [hst1]; exact push_next _ _
  have hb1 : st1.heap.get st.next = some (boxO 106 (.agg [.nilp, .nils])) := by rw [hst1]; exact push_self _ _
  by_cases hsep : sep = []
  · have hs0 : sep.length = 0 := by rw [hsep]; rfl
    refine CallW.enter (hs 53 (by simp) _ _) Tryz.func53 body53 c53_of rfl ?_
    rw [nt53]
    unfold c53
    refine WK.seq ?_
    refine WK.region ?_
    refine WR.op rfl rfl rfl rfl ?_
    refine WR.nil ?_
    refine after.seq ?_
    refine WK.seq ?_
    refine WK.seq ?_
    refine WK.region ?_
    refine WR.op rfl rfl rfl rfl ?_
    refine WR.op rfl rfl (hln rfl) rfl ?_
    refine WR.nil ?_
    refine after.seq ?_
    refine WK.block ?_
    refine WK.seq ?_
    refine WK.region ?_
    refine WR.op rfl rfl (r_eql rfl rfl (ieqb_F (by omega))) rfl ?_
    refine WR.op rfl rfl rfl rfl ?_
    refine WR.nil ?_
    refine after.seq ?_
    refine WK.cond rfl (fun h => (by cases h)) (fun _ => ?_)
    refine WK.seq ?_
    refine WK.region ?_
    refine WR.op rfl rfl (r_eql rfl rfl (ieqb_F (by omega))) rfl ?_
    refine WR.op rfl rfl rfl rfl ?_
    refine WR.nil ?_
    refine after.seq ?_
    refine WK.cond rfl (fun h => (by cases h)) (fun _ => ?_)
    refine WK.skip ?_
    refine after.block ?_
    refine after.seq ?_
    refine WK.seq ?_
    refine WK.region ?_
    refine WR.op rfl rfl rfl rfl ?_
    refine WR.nil ?_
    refine after.seq ?_
    refine WK.seq ?_
    refine WK.seq ?_
    refine WK.region ?_
    refine WR.op rfl rfl rfl rfl ?_
    refine WR.op rfl rfl (r_len_str un9 rfl) rfl ?_
    refine WR.op rfl rfl (r_gtr rfl rfl (iltb_F (by omega))) rfl ?_
    refine WR.nil ?_
    refine after.seq ?_
    refine WK.cond rfl (fun h => (by cases h)) (fun _ => ?_)
    refine WK.skip ?_
    refine after.seq ?_
    refine WK.seq ?_
    refine WK.seq ?_
    refine WK.region ?_
    refine WR.op rfl rfl rfl rfl ?_
    refine WR.op rfl rfl (hln rfl) rfl ?_
    refine WR.op rfl rfl rfl rfl ?_
    refine WR.nil ?_
    refine after.seq ?_
    refine WK.block ?_
    refine join_size (k := sep.length * rest.length) hx0 htt (by simp only [List.length_cons]; omega) (t0 :: rest) [] rfl _ rfl rfl (by rw [show sep.length * rest.length = 0 from by rw [hsep]; simp]; rfl) rfl rfl rfl fun env2 g0 g1 g5 => ?_
    refine after.seq ?_
    refine WK.sub [(0, .slc m 0 (rest.length + 1) none), (1, .str sep), (5, .int .i64 ((sep.length * rest.length + sumL (t0 :: rest) : Nat) : Int))] ?_ ?_
    · intro t v ht
      simp only [lookE_cons] at ht
      by_cases e0 : t = 0
      · rw [if_pos e0] at ht; subst e0; rw [g0]; exact ht
      rw [if_neg e0] at ht
      by_cases e1 : t = 1
      · rw [if_pos e1] at ht; subst e1; rw [g1]; exact ht
      rw [if_neg e1] at ht
      by_cases e5 : t = 5
      · rw [if_pos e5] at ht; subst e5; rw [g5]; exact ht
      rw [if_neg e5] at ht
      cases ht
    refine WK.seq ?_
    refine WK.region ?_
    refine WR.op rfl rfl (r_alloc ze106 rfl) rfl ?_
    rw [← hst1]
    refine WR.nil ?_
    refine after.seq ?_
    refine WK.seq ?_
    refine WK.region ?_
    refine WR.op rfl rfl rfl rfl ?_
    refine WR.call (f := 82) («as» := [.ptr st.next 0, .int .i64 ((sep.length * rest.length + sumL (t0 :: rest) : Nat) : Int)]) rfl (.inl rfl) rfl rfl rfl rfl ((Grow_ok (fun f hf => hs f (by revert f; decide)) hb1 (.inl rfl) (by omega) hx1 (Nat.le_refl _) (by omega) htt).mono ?_)
    rintro v2 st2 ⟨⟨f2, k1⟩, k2⟩
    refine WR.nil ?_
    refine after.seq ?_
    refine WK.seq ?_
    refine WK.region ?_
    refine WR.op rfl rfl rfl rfl ?_
    refine WR.op rfl rfl (r_idx (n := 0) un31 sz9 rfl rfl (by omega)) rfl ?_
    refine WR.op rfl rfl (r_load1 agg9 rfl ((hrow.ext k2 hm hf).load1 hget0)) rfl ?_
    refine WR.call (f := 42) («as» := [.ptr st.next 0, .str t0]) rfl (.inl rfl) rfl rfl rfl rfl ((writeAny_ok (fun f hf => hs f (by revert f; decide)) k1 k2 (Nat.le_refl _) (by simp; omega)).mono ?_)
    rintro v3 st3 ⟨⟨f3, k3⟩, k4⟩
    rw [List.nil_append] at k3
    refine WR.nil ?_
    refine after.seq ?_
    refine WK.seq ?_
    refine WK.seq ?_
    refine WK.region ?_
    refine WR.op rfl rfl rfl rfl ?_
    refine WR.op rfl rfl (r_slice1 rfl rfl (hrow.ext k4 hm hf) (by rw [List.length_map]; rfl) (by omega)) rfl ?_
    refine WR.op rfl rfl (v := .int .i64 (rest.length : Int)) (by simp only [aopR, evsR, evE, lookE_cons, if_pos, bnd_some, builtinOp, lenB]; rfl) rfl ?_
    refine WR.op rfl rfl rfl rfl ?_
    refine WR.nil ?_
    refine after.seq ?_
    refine WK.block ?_
    refine join_write (fun f hf => hs f (by revert f; decide)) hrow hm hf (Nat.le_refl st.next) (by omega) htot rest [] rfl f3 st3 k4 (by rw [joinT, List.append_nil]; exact k3) _ rfl rfl rfl rfl rfl fun env3 fb st4 g8 k5 k6 => ?_
    refine after.seq ?_
    refine WK.sub [(8, .ptr st.next 0)] ?_ ?_
    · intro t v ht
      simp only [lookE_cons] at ht
      by_cases e8 : t = 8
      · rw [if_pos e8] at ht; subst e8; rw [g8]; exact ht
      rw [if_neg e8] at ht
      cases ht
    refine WK.seq ?_
    refine WK.region ?_
    have hjne : t0 ++ joinT sep rest ≠ [] := by
      intro h
      have := congrArg List.length h
      rw [List.length_append, List.length_nil] at this
      omega
    obtain ⟨q1, a, y, q2, q3, q4, q5⟩ := k6
    have q6 : st.next ≤ fb ∧ ∃ F, st4.fams.get fb = some F ∧ F.mark < 2 := by
      rcases q5 with rfl | q5
      · exfalso
        rcases q4 with ⟨_, e⟩ | ⟨_, e, _⟩
        · have := congrArg List.length e
          rw [byteEls_len] at this
          exact hjne (List.eq_nil_of_length_eq_zero this)
        · cases e
      · exact q5
    refine WR.call (f := 43) («as» := [.ptr st.next 0]) rfl (.inl rfl) rfl rfl rfl rfl ((Bld.string_ok (hs 43 (by simp)) k5 q2 q4 q6.1 hjne (by rw [List.length_append]; exact htot) q6.2).mono ?_)
    rintro v5 st5 ⟨rfl, k7⟩
    refine WR.op rfl rfl rfl rfl ?_
    refine WR.nil ?_
    refine after.seq ?_
    refine WK.ret ?_
    exact ⟨ret_ne 0, ret_ne, [.str (t0 ++ joinT sep rest)], (by rw [res53]; rfl), rfl, k7⟩
  · have hs0 : 1 ≤ sep.length := by
      cases sep with
      | nil => exact absurd rfl hsep
      | cons a l => simp
    refine CallW.enter (hs 53 (by simp) _ _) Tryz.func53 body53 c53_of rfl ?_
    rw [nt53]
    unfold c53
    refine WK.seq ?_
    refine WK.region ?_
    refine WR.op rfl rfl rfl rfl ?_
    refine WR.nil ?_
    refine after.seq ?_
    refine WK.seq ?_
    refine WK.seq ?_
    refine WK.region ?_
    refine WR.op rfl rfl rfl rfl ?_
    refine WR.op rfl rfl (hln rfl) rfl ?_
    refine WR.nil ?_
    refine after.seq ?_
    refine WK.block ?_
    refine WK.seq ?_
    refine WK.region ?_
    refine WR.op rfl rfl (r_eql rfl rfl (ieqb_F (by omega))) rfl ?_
    refine WR.op rfl rfl rfl rfl ?_
    refine WR.nil ?_
    refine after.seq ?_
    refine WK.cond rfl (fun h => (by cases h)) (fun _ => ?_)
    refine WK.seq ?_
    refine WK.region ?_
    refine WR.op rfl rfl (r_eql rfl rfl (ieqb_F (by omega))) rfl ?_
    refine WR.op rfl rfl rfl rfl ?_
    refine WR.nil ?_
    refine after.seq ?_
    refine WK.cond rfl (fun h => (by cases h)) (fun _ => ?_)
    refine WK.skip ?_
    refine after.block ?_
    refine after.seq ?_
    refine WK.seq ?_
    refine WK.region ?_
    refine WR.op rfl rfl rfl rfl ?_
    refine WR.nil ?_
    refine after.seq ?_
    refine WK.seq ?_
    refine WK.seq ?_
    refine WK.region ?_
    refine WR.op rfl rfl rfl rfl ?_
    refine WR.op rfl rfl (r_len_str un9 rfl) rfl ?_
    refine WR.op rfl rfl (r_gtr rfl rfl (iltb_T (by omega))) rfl ?_
    refine WR.nil ?_
    refine after.seq ?_
    refine WK.cond rfl (fun _ => ?_) (fun h => (by cases h))
    refine WK.seq ?_
    refine WK.seq ?_
    refine WK.region ?_
    refine WR.op rfl rfl rfl rfl ?_
    refine WR.op rfl rfl (r_len_str un9 rfl) rfl ?_
    refine WR.op rfl rfl rfl rfl ?_
    refine WR.op rfl rfl (hln rfl) rfl ?_
    refine WR.op rfl rfl (r_arith ⟨by decide, by decide⟩ rfl rfl (sub_nat (b := 1) (by omega) (by omega))) rfl ?_
    refine WR.op rfl rfl (r_arith ⟨by decide, by decide⟩ rfl rfl (quo_nat (a := 9223372036854775807) (by omega) (by omega))) rfl ?_
    refine WR.op rfl rfl (r_geq rfl rfl (q := false) (by rw [Nat.add_sub_cancel, iltb_T (by omega)]; rfl)) rfl ?_
    refine WR.nil ?_
    refine after.seq ?_
    refine WK.cond rfl (fun h => (by cases h)) (fun _ => ?_)
    refine WK.skip ?_
    refine after.seq ?_
    refine WK.region ?_
    refine WR.op rfl rfl rfl rfl ?_
    refine WR.op rfl rfl rfl rfl ?_
    refine WR.op rfl rfl (r_len_str un9 rfl) rfl ?_
    refine WR.op rfl rfl rfl rfl ?_
    refine WR.op rfl rfl (hln rfl) rfl ?_
    refine WR.op rfl rfl (r_arith ⟨by decide, by decide⟩ rfl rfl (sub_nat (b := 1) (by omega) (by omega))) rfl ?_
    refine WR.op rfl rfl (r_arith ⟨by decide, by decide⟩ rfl rfl (mul_nat (by rw [Nat.add_sub_cancel]; omega))) rfl ?_
    refine WR.op rfl rfl (r_arith ⟨by decide, by decide⟩ rfl rfl (add_0 (n := sep.length * rest.length) (by omega) rfl)) rfl ?_
    refine WR.op rfl rfl rfl rfl ?_
    refine WR.nil ?_
    refine after.seq ?_
    refine WK.seq ?_
    refine WK.seq ?_
    refine WK.region ?_
    refine WR.op rfl rfl rfl rfl ?_
    refine WR.op rfl rfl (hln rfl) rfl ?_
    refine WR.op rfl rfl rfl rfl ?_
    refine WR.nil ?_
    refine after.seq ?_
    refine WK.block ?_
    refine join_size (k := sep.length * rest.length) hx0 htt (by simp only [List.length_cons]; omega) (t0 :: rest) [] rfl _ rfl rfl rfl rfl rfl rfl fun env2 g0 g1 g5 => ?_
    refine after.seq ?_
    refine WK.sub [(0, .slc m 0 (rest.length + 1) none), (1, .str sep), (5, .int .i64 ((sep.length * rest.length + sumL (t0 :: rest) : Nat) : Int))] ?_ ?_
    · intro t v ht
      simp only [lookE_cons] at ht
      by_cases e0 : t = 0
      · rw [if_pos e0] at ht; subst e0; rw [g0]; exact ht
      rw [if_neg e0] at ht
      by_cases e1 : t = 1
      · rw [if_pos e1] at ht; subst e1; rw [g1]; exact ht
      rw [if_neg e1] at ht
      by_cases e5 : t = 5
      · rw [if_pos e5] at ht; subst e5; rw [g5]; exact ht
      rw [if_neg e5] at ht
      cases ht
    refine WK.seq ?_
    refine WK.region ?_
    refine WR.op rfl rfl (r_alloc ze106 rfl) rfl ?_
    rw [← hst1]
    refine WR.nil ?_
    refine after.seq ?_
    refine WK.seq ?_
    refine WK.region ?_
    refine WR.op rfl rfl rfl rfl ?_
    refine WR.call (f := 82) («as» := [.ptr st.next 0, .int .i64 ((sep.length * rest.length + sumL (t0 :: rest) : Nat) : Int)]) rfl (.inl rfl) rfl rfl rfl rfl ((Grow_ok (fun f hf => hs f (by revert f; decide)) hb1 (.inl rfl) (by omega) hx1 (Nat.le_refl _) (by omega) htt).mono ?_)
    rintro v2 st2 ⟨⟨f2, k1⟩, k2⟩
    refine WR.nil ?_
    refine after.seq ?_
    refine WK.seq ?_
    refine WK.region ?_
    refine WR.op rfl rfl rfl rfl ?_
    refine WR.op rfl rfl (r_idx (n := 0) un31 sz9 rfl rfl (by omega)) rfl ?_
    refine WR.op rfl rfl (r_load1 agg9 rfl ((hrow.ext k2 hm hf).load1 hget0)) rfl ?_
    refine WR.call (f := 42) («as» := [.ptr st.next 0, .str t0]) rfl (.inl rfl) rfl rfl rfl rfl ((writeAny_ok (fun f hf => hs f (by revert f; decide)) k1 k2 (Nat.le_refl _) (by simp; omega)).mono ?_)
    rintro v3 st3 ⟨⟨f3, k3⟩, k4⟩
    rw [List.nil_append] at k3
    refine WR.nil ?_
    refine after.seq ?_
    refine WK.seq ?_
    refine WK.seq ?_
    refine WK.region ?_
    refine WR.op rfl rfl rfl rfl ?_
    refine WR.op rfl rfl (r_slice1 rfl rfl (hrow.ext k4 hm hf) (by rw [List.length_map]; rfl) (by omega)) rfl ?_
    refine WR.op rfl rfl (v := .int .i64 (rest.length : Int)) (by simp only [aopR, evsR, evE, lookE_cons, if_pos, bnd_some, builtinOp, lenB]; rfl) rfl ?_
    refine WR.op rfl rfl rfl rfl ?_
    refine WR.nil ?_
    refine after.seq ?_
    refine WK.block ?_
    refine join_write (fun f hf => hs f (by revert f; decide)) hrow hm hf (Nat.le_refl st.next) (by omega) htot rest [] rfl f3 st3 k4 (by rw [joinT, List.append_nil]; exact k3) _ rfl rfl rfl rfl rfl fun env3 fb st4 g8 k5 k6 => ?_
    refine after.seq ?_
    refine WK.sub [(8, .ptr st.next 0)] ?_ ?_
    · intro t v ht
      simp only [lookE_cons] at ht
      by_cases e8 : t = 8
      · rw [if_pos e8] at ht; subst e8; rw [g8]; exact ht
      rw [if_neg e8] at ht
      cases ht
    refine WK.seq ?_
    refine WK.region ?_
    have hjne : t0 ++ joinT sep rest ≠ [] := by
      intro h
      have := congrArg List.length h
      rw [List.length_append, List.length_nil] at this
      omega
    obtain ⟨q1, a, y, q2, q3, q4, q5⟩ := k6
    have q6 : st.next ≤ fb ∧ ∃ F, st4.fams.get fb = some F ∧ F.mark < 2 := by
      rcases q5 with rfl | q5
      · exfalso
        rcases q4 with ⟨_, e⟩ | ⟨_, e, _⟩
        · have := congrArg List.length e
          rw [byteEls_len] at this
          exact hjne (List.eq_nil_of_length_eq_zero this)
        · cases e
      · exact q5
    refine WR.call (f := 43) («as» := [.ptr st.next 0]) rfl (.inl rfl) rfl rfl rfl rfl ((Bld.string_ok (hs 43 (by simp)) k5 q2 q4 q6.1 hjne (by rw [List.length_append]; exact htot) q6.2).mono ?_)
    rintro v5 st5 ⟨rfl, k7⟩
    refine WR.op rfl rfl rfl rfl ?_
    refine WR.nil ?_
    refine after.seq ?_
    refine WK.ret ?_
    exact ⟨ret_ne 0, ret_ne, [.str (t0 ++ joinT sep rest)], (by rw [res53]; rfl), rfl, k7⟩
end Go.Proofs.Tz
