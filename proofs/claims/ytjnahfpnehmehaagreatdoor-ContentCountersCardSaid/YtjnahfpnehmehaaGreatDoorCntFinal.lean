/- ContentCounters: the given statement, for every input, without a condition. -/
import Derived.Test.YtjnahfpnehmehaaGreatDoorCnt7
import Derived.Test.YtjnahfpnehmehaaGreatDoorCntCard
import Derived.Test.YtjnahfpnehmehaaGreatDoorAwake18
namespace Go.Proofs.YtjnahfpnehmehaaGreatDoor
open Go Go.AE Go.RowKit Go.Proofs Go.Proofs.Tz

theorem xa18 (f : FuncId) (xs : List AV) (st : St) (r : AV × St) (h : XA 14 f xs st r) : SumOk Tryz.prog f xs st r.1 r.2 := by
  obtain ⟨rfl, rfl, ⟨e, hk⟩, rfl⟩ := h
  exact awake18 hk
theorem len_slc {x : AV} {n : Nat} (h : lenOf x = some n) (hx : x = .nils ∨ ∃ b o l c, x = .slc b o l c) {ρ : Rho} {y : Operand} {st : St} (hy : ρ y = some x) : aopR Tryz.prog ρ st (.call ⟨.builtin .len, #[y], #[55]⟩) = some (.int .i64 (n : Int), st) := by
  rcases hx with rfl | ⟨b, o, l, c, rfl⟩
  · obtain rfl := Option.some.inj h
    simp only [aopR, evsR, hy, bnd_some, builtinOp, lenB, un55]
    rfl
  · obtain rfl := Option.some.inj h
    simp only [aopR, evsR, hy, bnd_some, builtinOp, lenB, un55]
theorem run_of {C : Ctx} {f : FuncId} {xs : List AV} {st : St} (h : CallW C f xs st fun v _ => v = .bool true) : ∃ n st', acallN C n f xs st = some (.bool true, st') := by
  obtain ⟨v, st', ⟨N, hN⟩, rfl⟩ := h
  exact ⟨N, st', hN N (Nat.le_refl N)⟩
/-- ContentCounters, for every input. -/
theorem contentCounters_holds : Rows.ContentCountersCardSaid :=
  contentCounters_card (sumK_ok xa18)
    (fun s x e => run_of (cnt_true (l := []) (fun hy => len_slc rfl (.inl rfl) hy) (fun h => absurd rfl h) (stG_pt e) (stG_nf e) fun k => (stG_knows e).ext k (Nat.le_refl 64)))
    (fun l cap s x _ e et => run_of (cnt_true (l := l) (fun hy => len_slc (by show some (l.map (AV.int .i64)).length = _; rw [List.length_map]) (.inr ⟨_, _, _, _, rfl⟩) hy) (fun _ => by
      have := stA_els e et (l.map (AV.int .i64)) cap
      rw [List.map_map] at this
      exact this) (stA_has e et _) (stA_nf e et _) fun k => (stA_knows e et _).ext k (show 64 ≤ 65 by decide)))
    (fun cap s x e => run_of (cnt_true (l := []) (fun hy => len_slc rfl (.inr ⟨_, _, _, _, rfl⟩) hy) (fun h => absurd rfl h) (stB_has e) (stB_nf e) fun k => (stB_knows e).ext k (show 64 ≤ 65 by decide)))
#print axioms contentCounters_holds
end Go.Proofs.YtjnahfpnehmehaaGreatDoor
