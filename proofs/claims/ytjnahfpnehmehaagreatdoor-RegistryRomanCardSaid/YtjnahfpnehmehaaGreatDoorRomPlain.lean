/- RegistryRoman: the plain law: Roman numbers, read by their signs, are the numbers. -/
import Derived.Test.YtjnahfpnehmehaaGreatDoorRomLoops
namespace Go.Proofs.Tz
open Go Go.AE Go.RowKit Go.Proofs
set_option maxRecDepth 1000000
/-- A number's signs, as numbers. -/
noncomputable def romCs (N : Nat) : List Nat := (pick romL (romP N)).map (·.toNat)
noncomputable def wFast (c : Nat) : Nat := cnd (Nat.beq c 105) 1 (cnd (Nat.beq c 118) 5 (cnd (Nat.beq c 120) 10 (cnd (Nat.beq c 108) 50 (cnd (Nat.beq c 99) 100 (cnd (Nat.beq c 100) 500 (cnd (Nat.beq c 109) 1000 0))))))
theorem wFast_eq (c : Nat) : wFast c = wTo c 7 := by
  have key : ∀ a, Nat.beq c a = decide (c = a) := fun a => by
    cases h : Nat.beq c a with
    | true => rw [Nat.eq_of_beq_eq_true h]; simp
    | false => exact (decide_eq_false fun e => by rw [e, AE.beq_true.2 rfl] at h; cases h).symm
  simp only [wTo, wFast, key, tabC, tabW, List.getD_cons_zero, List.getD_cons_succ]
  by_cases h1 : c = 105
  · subst h1; rfl
  by_cases h2 : c = 118
  · subst h2; rfl
  by_cases h3 : c = 120
  · subst h3; rfl
  by_cases h4 : c = 108
  · subst h4; rfl
  by_cases h5 : c = 99
  · subst h5; rfl
  by_cases h6 : c = 100
  · subst h6; rfl
  by_cases h7 : c = 109
  · subst h7; rfl
  simp only [h1, h2, h3, h4, h5, h6, h7, decide_false, AE.cnd_false, Ne.symm h1, Ne.symm h2, Ne.symm h3, Ne.symm h4, Ne.symm h5, Ne.symm h6, Ne.symm h7, if_false]
/-- The signs from the last one on: what they come to, if each is one, the sum never falling below nought. -/
noncomputable def rvL : List Nat → Nat → Nat → Option Nat
  | [], v, _ => some v
  | c :: r, v, last => cnd (Nat.beq (wFast c) 0 || !Nat.blt c 256) none (cnd (Nat.blt (wFast c) last) (cnd (Nat.ble (wFast c) v) (rvL r (Nat.sub v (wFast c)) last) none) (rvL r (Nat.add v (wFast c)) (wFast c)))
theorem rvL_ok {cs : List Nat} : ∀ (r : List Nat) (v last N : Nat), rvL r v last = some N → (∀ k, k < r.length → cs.getD k 0 = r.reverse.getD k 0) → rvTo cs r.length (v : Int) last = (N : Int) ∧ ∀ c ∈ r, c < 256 ∧ wTo c 7 ≠ 0
  | [], v, last, N, h, _ => by
    obtain rfl := Option.some.inj h
    exact ⟨rfl, fun c hc => by cases hc⟩
  | c :: r, v, last, N, h, hcs => by
    have hlen : (c :: r).length = r.length + 1 := rfl
    have hc : cs.getD r.length 0 = c := by
      rw [hcs r.length (by rw [hlen]; omega), List.reverse_cons, List.getD_eq_getElem?_getD, List.getElem?_append_right (by simp)]
      simp
    have hcs' : ∀ k, k < r.length → cs.getD k 0 = r.reverse.getD k 0 := fun k hk => by
      rw [hcs k (by rw [hlen]; omega), List.reverse_cons, List.getD_eq_getElem?_getD, List.getElem?_append_left (by simpa using hk), ← List.getD_eq_getElem?_getD]
    rw [rvL, wFast_eq] at h
    cases hb : (Nat.beq (wTo c 7) 0 || !Nat.blt c 256) with
    | true => rw [hb] at h; cases h
    | false =>
      rw [hb, AE.cnd_false] at h
      simp only [Bool.or_eq_false_iff, Bool.not_eq_false'] at hb
      have h0 : wTo c 7 ≠ 0 := fun e => by rw [e] at hb; exact absurd hb.1 (by decide)
      have h1 : c < 256 := blt_true.1 hb.2
      rw [hlen, rvTo, hc]
      cases hl : Nat.blt (wTo c 7) last with
      | true =>
        rw [hl, cnd_true] at h
        cases hv : Nat.ble (wTo c 7) v with
        | false => rw [hv] at h; cases h
        | true =>
          rw [hv, cnd_true] at h
          obtain ⟨q1, q2⟩ := rvL_ok r _ last N h hcs'
          have hv := ble_true.1 hv
          rw [if_pos (blt_true.1 hl)]
          refine ⟨?_, fun d hd => ?_⟩
          · have e : ((Nat.sub v (wTo c 7) : Nat) : Int) = (v : Int) - (wTo c 7 : Int) := by
              show ((v - wTo c 7 : Nat) : Int) = _
              omega
            rw [← e]; exact q1
          · rcases List.mem_cons.1 hd with rfl | hd
            · exact ⟨h1, h0⟩
            · exact q2 d hd
      | false =>
        rw [hl, AE.cnd_false] at h
        obtain ⟨q1, q2⟩ := rvL_ok r _ _ N h hcs'
        rw [if_neg (fun e => by rw [blt_true.2 e] at hl; cases hl)]
        refine ⟨?_, fun d hd => ?_⟩
        · have e : ((Nat.add v (wTo c 7) : Nat) : Int) = (v : Int) + (wTo c 7 : Int) := by
            show ((v + wTo c 7 : Nat) : Int) = _
            omega
          rw [← e]; exact q1
        · rcases List.mem_cons.1 hd with rfl | hd
          · exact ⟨h1, h0⟩
          · exact q2 d hd
noncomputable def isN (N : Nat) : Option Nat → Bool
  | some m => Nat.beq m N
  | none => false
theorem rom_all : upTo (fun k => isN (k + 1) (rvL (romCs (k + 1)).reverse 0 0)) 3999 = true := by kernel_rfl
theorem rom_law {N : Nat} (h1 : 1 ≤ N) (h2 : N ≤ 3999) : rvTo (romCs N) (romCs N).length 0 0 = (N : Int) ∧ ∀ c ∈ romCs N, c < 256 ∧ wTo c 7 ≠ 0 := by
  have := upTo_of rom_all (N - 1) (by omega)
  rw [show N - 1 + 1 = N by omega] at this
  unfold isN at this
  split at this
  · rename_i m hm
    obtain rfl := Nat.eq_of_beq_eq_true this
    obtain ⟨q1, q2⟩ := rvL_ok (cs := romCs m) _ 0 0 m hm (fun k _ => by rw [List.reverse_reverse])
    rw [List.length_reverse] at q1
    exact ⟨q1, fun c hc => q2 c (List.mem_reverse.2 hc)⟩
  · cases this
theorem romU_get (p : Nat) : romU.getD p [] = (romL.getD p []).map fun c => UInt8.ofNat (c.toNat - 32) := by
  by_cases h : p < 13
  · have : ∀ q, q < 13 → romU.getD q [] = (romL.getD q []).map fun c => UInt8.ofNat (c.toNat - 32) := by decide
    exact this p h
  · rw [List.getD_eq_getElem?_getD, List.getD_eq_getElem?_getD, List.getElem?_eq_none (by show 13 ≤ p; omega), List.getElem?_eq_none (by show 13 ≤ p; omega)]
    rfl
theorem pickU (l : List Nat) : pick romU l = (pick romL l).map fun c => UInt8.ofNat (c.toNat - 32) := by
  unfold pick
  rw [List.map_flatten, List.map_map]
  congr 1
  exact List.map_congr_left fun p _ => romU_get p
theorem letters_ge {c : Nat} (h : wTo c 7 ≠ 0) : 97 ≤ c := by
  rw [← wFast_eq] at h
  unfold wFast at h
  rcases Nat.lt_or_ge c 97 with hc | hc
  · exfalso
    have key : ∀ a, 97 ≤ a → Nat.beq c a = false := fun a ha => by
      cases hb : Nat.beq c a with
      | false => rfl
      | true => have := Nat.eq_of_beq_eq_true hb; omega
    rw [key 105 (by decide), key 118 (by decide), key 120 (by decide), key 108 (by decide), key 99 (by decide), key 100 (by decide), key 109 (by decide)] at h
    exact h rfl
  · exact hc
theorem signs_of (up : Bool) {t : List UInt8} {cs : List Nat} (hcs : cs = t.map (·.toNat)) (q : ∀ c ∈ cs, c < 256 ∧ wTo c 7 ≠ 0) {s : List UInt8} (hs : s = if up = true then t.map fun c => UInt8.ofNat (c.toNat - 32) else t) :
    s.length = cs.length ∧ ∀ j, j < s.length → ∃ b : UInt8, s[j]? = some b ∧ b.toNat + (if up = true then 32 else 0) = cs.getD j 0 ∧ cs.getD j 0 < 256 ∧ wTo (cs.getD j 0) 7 ≠ 0 := by
  have hl : cs.length = t.length := by rw [hcs]; exact List.length_map _
  have hsl : s.length = cs.length := by
    rw [hs, hl]
    split
    · exact List.length_map _
    · rfl
  refine ⟨hsl, fun j hj => ?_⟩
  have hj2 : j < cs.length := by omega
  have hj3 : j < t.length := by omega
  have hg : cs.getD j 0 = t[j].toNat := by
    rw [List.getD_eq_getElem?_getD, hcs, List.getElem?_map, List.getElem?_eq_getElem hj3]; rfl
  have hm : cs.getD j 0 ∈ cs := by
    rw [List.getD_eq_getElem?_getD, List.getElem?_eq_getElem hj2]
    exact List.getElem_mem _
  obtain ⟨q1, q2⟩ := q _ hm
  have h97 := letters_ge q2
  rw [hg] at q1 q2 h97 ⊢
  cases up with
  | true =>
    refine ⟨UInt8.ofNat (t[j].toNat - 32), ?_, ?_, q1, q2⟩
    · rw [hs, if_pos rfl, List.getElem?_map, List.getElem?_eq_getElem hj3]; rfl
    · rw [if_pos rfl, UInt8.toNat_ofNat', Nat.mod_eq_of_lt (by omega)]; omega
  | false =>
    refine ⟨t[j], ?_, ?_, q1, q2⟩
    · rw [hs, if_neg (by decide)]
      exact List.getElem?_eq_getElem hj3
    · rw [if_neg (by decide)]; omega
/-- The signs of a style, small ones or great ones. -/
theorem rom_signs (up : Bool) {N : Nat} (h1 : 1 ≤ N) (h2 : N ≤ 3999) : (pick (if up = true then romU else romL) (romP N)).length = (romCs N).length ∧ ∀ j, j < (pick (if up = true then romU else romL) (romP N)).length → ∃ b : UInt8, (pick (if up = true then romU else romL) (romP N))[j]? = some b ∧ b.toNat + (if up = true then 32 else 0) = (romCs N).getD j 0 ∧ (romCs N).getD j 0 < 256 ∧ wTo ((romCs N).getD j 0) 7 ≠ 0 :=
  signs_of up (t := pick romL (romP N)) rfl (rom_law h1 h2).2 (by
    cases up with
    | true => rw [if_pos rfl, if_pos rfl]; exact pickU _
    | false => rw [if_neg (by decide), if_neg (by decide)])
end Go.Proofs.Tz
