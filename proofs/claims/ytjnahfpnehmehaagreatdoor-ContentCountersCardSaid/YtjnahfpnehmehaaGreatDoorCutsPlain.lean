/- ContentCuts: what is cut, in numbers and lists alone. -/
import Derived.Test.YtjnahfpnehmehaaGreatDoorAeG
import Derived.Test.YtjnahfpnehmehaaGreatDoorCut
namespace Go.Proofs.Tz
open Go Go.AE Go.Proofs

/-- A sign, n times. -/
def gs (n : Nat) (g : List UInt8) : List UInt8 := (List.replicate n g).flatten
theorem gs_succ (n : Nat) (g : List UInt8) : gs (n + 1) g = g ++ gs n g := by simp [gs, List.replicate_succ]
theorem gs_end (n : Nat) (g : List UInt8) : gs n g ++ g = gs (n + 1) g := by
  induction n with
  | zero => simp [gs]
  | succ n ih => rw [gs_succ n, List.append_assoc, ih, ← gs_succ]
theorem gs_len (n : Nat) (g : List UInt8) : (gs n g).length = n * g.length := by
  induction n with
  | zero => simp [gs]
  | succ n ih => rw [gs_succ, List.length_append, ih, Nat.succ_mul]; omega

theorem lastAt_gs {w : Nat} (hw : 1 ≤ w) {g : List UInt8} (hgl : g.length = w) (hdec : ∀ k, (dec8 (g ++ gs k g)).2 = w) : ∀ (j m pos to : Nat), j < m →
    lastAt m (gs j g) pos to = if j = 0 ∨ 2000 < pos then to else pos + min (j - 1) ((2000 - pos) / w) * w := by
  intro j
  induction j with
  | zero =>
    intro m pos to hm
    obtain ⟨m, rfl⟩ : ∃ k, m = k + 1 := ⟨m - 1, by omega⟩
    rw [if_pos (.inl rfl)]
    rfl
  | succ j ih =>
    intro m pos to hm
    obtain ⟨m, rfl⟩ : ∃ k, m = k + 1 := ⟨m - 1, by omega⟩
    have hd := hdec j
    rw [gs_succ]
    obtain ⟨c, r, hcr⟩ : ∃ c r, g ++ gs j g = c :: r := by
      cases hh : g ++ gs j g with
      | nil =>
        have h0 := congrArg List.length hh
        rw [List.length_append, hgl] at h0
        simp only [List.length_nil] at h0
        omega
      | cons c r => exact ⟨c, r, rfl⟩
    have hdrop : (g ++ gs j g).drop w = gs j g := by rw [← hgl, List.drop_left]
    rw [hcr] at hd hdrop ⊢
    rw [lastAt, hd, hdrop]
    by_cases hp : 2000 < pos
    · rw [if_pos hp, if_pos (.inr hp)]
    · rw [if_neg hp, ih m (pos + w) pos (by omega), if_neg (fun h : j + 1 = 0 ∨ 2000 < pos => h.elim (fun h => by simp at h) hp)]
      by_cases h0 : j = 0
      · subst h0
        simp
      · by_cases h1 : 2000 < pos + w
        · rw [if_pos (.inr h1), Nat.div_eq_of_lt (by omega : 2000 - pos < w)]
          simp
        · rw [if_neg (by omega)]
          have e1 : (2000 - pos) / w = (2000 - (pos + w)) / w + 1 := by
            rw [show 2000 - pos = (2000 - (pos + w)) + w by omega, Nat.add_div_right _ (by omega)]
          rw [e1]
          generalize (2000 - (pos + w)) / w = q
          have : min (j + 1 - 1) (q + 1) = min (j - 1) q + 1 := by omega
          rw [this, Nat.add_mul]
          omega
theorem lastAt_x {rest : List UInt8} {m : Nat} : ∀ (t pos to : Nat), pos + t ≤ 2000 → lastAt (m + t) (List.replicate t 120 ++ rest) pos to = if t = 0 then lastAt m rest pos to else lastAt m rest (pos + t) (pos + t - 1)
  | 0, pos, to, _ => by simp
  | t + 1, pos, to, h => by
    rw [List.replicate_succ, List.cons_append, show m + (t + 1) = (m + t) + 1 from rfl, lastAt, if_neg (by omega), if_neg (by omega)]
    have hd : dec8 (120 :: (List.replicate t 120 ++ rest)) = (120, 1) := rfl
    rw [hd]
    show lastAt (m + t) (List.replicate t 120 ++ rest) (pos + 1) pos = _
    rw [lastAt_x t (pos + 1) pos (by omega)]
    by_cases h0 : t = 0
    · subst h0; simp
    · rw [if_neg h0]
      congr 1 <;> omega
/-- The last beginning of a sign in a tail and n signs. -/
theorem lastAt_all {w : Nat} (hw : 1 ≤ w) {g : List UInt8} (hgl : g.length = w) (hdec : ∀ k, (dec8 (g ++ gs k g)).2 = w) {t n : Nat} (ht : t ≤ 5) (hlong : 2000 < t + n * w) :
    lastAt ((List.replicate t 120 ++ gs n g).length + 1) (List.replicate t 120 ++ gs n g) 0 0 = t + (2000 - t) / w * w := by
  have hn : 1 ≤ n := by
    cases n with
    | zero => omega
    | succ n => omega
  have hnw : n ≤ n * w := Nat.le_mul_of_pos_right n hw
  rw [List.length_append, List.length_replicate, gs_len, hgl, show t + n * w + 1 = (n * w + 1) + t by omega, lastAt_x t 0 0 (by omega)]
  have hq : (2000 - t) / w ≤ n - 1 := by
    have : (2000 - t) / w < n := (Nat.div_lt_iff_lt_mul (by omega)).2 (by omega)
    omega
  by_cases h0 : t = 0
  · subst h0
    rw [if_pos rfl, lastAt_gs hw hgl hdec n _ _ _ (by omega), if_neg (by omega), Nat.min_eq_right hq]
  · rw [if_neg h0, lastAt_gs hw hgl hdec n _ _ _ (by omega), if_neg (by omega), Nat.zero_add, Nat.min_eq_right hq]

theorem cnd_eq_wd {b : Bool} {x y : Nat × Nat} {r : Nat × Nat} (h : cnd b x y = r) (hy : y.2 ≠ r.2) : b = true ∧ x = r := by
  cases b with
  | false => exact absurd (congrArg Prod.snd h) hy
  | true => exact ⟨rfl, h⟩
theorem dec2_wd (a b : Nat) : (dec2 a b).2 ≤ 2 := cnd_wd (p := (· ≤ 2)) (by simp) (by simp)
theorem dec3_wd (a b c : Nat) : (dec3 a b c).2 ≤ 3 := cnd_wd (p := (· ≤ 3)) (by simp) (by simp)
/-- A sign of more bytes than one is itself, whatever stands behind it. -/
theorem dec8_app {g rest : List UInt8} {c : Nat} (hg : 2 ≤ g.length) (h : dec8 g = (c, g.length)) : dec8 (g ++ rest) = (c, g.length) := by
  match g, hg, h with
  | b0 :: b1 :: r, _, h =>
    simp only [dec8, List.length_cons] at h
    have hb0 : Nat.blt b0.toNat 128 = false := by
      cases hb : Nat.blt b0.toNat 128 with
      | false => rfl
      | true =>
        rw [hb] at h
        have := congrArg Prod.snd h
        simp at this
    rw [hb0] at h
    simp only [cnd_false] at h
    show dec8 (b0 :: (b1 :: (r ++ rest))) = _
    simp only [dec8, hb0, cnd_false]
    match r, h with
    | [], h =>
      simp only [decR] at h
      obtain ⟨h1, h2⟩ := cnd_eq_wd h (by simp)
      cases rest with
      | nil => simp only [List.nil_append, decR, h1, cnd_true, h2]; rfl
      | cons x rest =>
        cases rest with
        | nil => simp only [List.nil_append, decR, h1, cnd_true, h2]; rfl
        | cons y rest => simp only [List.nil_append, decR, h1, cnd_true, h2]; rfl
    | [b2], h =>
      simp only [decR] at h
      have h6 : Nat.beq (b0.toNat / 32) 6 = false := by
        cases hb : Nat.beq (b0.toNat / 32) 6 with
        | false => rfl
        | true =>
          rw [hb] at h
          have := congrArg Prod.snd h
          have h2 := dec2_wd b0.toNat b1.toNat
          simp only [cnd_true] at this
          simp at this
          omega
      rw [h6] at h
      simp only [cnd_false] at h
      obtain ⟨h1, h2⟩ := cnd_eq_wd h (by simp)
      cases rest with
      | nil => simp only [List.append_nil, decR, h6, h1, cnd_true, cnd_false, h2]; rfl
      | cons x rest => simp only [List.cons_append, List.nil_append, decR, h6, h1, cnd_true, cnd_false, h2]; rfl
    | b2 :: b3 :: r, h =>
      simp only [decR] at h
      show decR b0.toNat (b1 :: b2 :: b3 :: (r ++ rest)) = _
      simp only [decR]
      exact h
/-- A sign of one byte, many times. -/
theorem dec8_one (b : UInt8) : ∀ k, (dec8 ([b] ++ gs k [b])).2 = 1 := by
  intro k
  have key : ∀ r : List UInt8, (∀ x ∈ r, x = b) → (dec8 (b :: r)).2 = 1 := by
    intro r hr
    have hc : Nat.beq (b.toNat / 32) 6 = true → cont8 b.toNat = false := by
      intro h
      have := Nat.eq_of_beq_eq_true h
      unfold cont8
      cases h2 : Nat.beq (b.toNat / 64) 2 with
      | false => rfl
      | true => have := Nat.eq_of_beq_eq_true h2; omega
    have hc2 : Nat.beq (b.toNat / 16) 14 = true → cont8 b.toNat = false := by
      intro h
      have := Nat.eq_of_beq_eq_true h
      unfold cont8
      cases h2 : Nat.beq (b.toNat / 64) 2 with
      | false => rfl
      | true => have := Nat.eq_of_beq_eq_true h2; omega
    have hc3 : Nat.beq (b.toNat / 8) 30 = true → cont8 b.toNat = false := by
      intro h
      have := Nat.eq_of_beq_eq_true h
      unfold cont8
      cases h2 : Nat.beq (b.toNat / 64) 2 with
      | false => rfl
      | true => have := Nat.eq_of_beq_eq_true h2; omega
    have d2 : Nat.beq (b.toNat / 32) 6 = true → (dec2 b.toNat b.toNat).2 = 1 := fun h => by unfold dec2; rw [hc h]; rfl
    have d3 : Nat.beq (b.toNat / 16) 14 = true → (dec3 b.toNat b.toNat b.toNat).2 = 1 := fun h => by unfold dec3; rw [hc2 h]; rfl
    have d4 : Nat.beq (b.toNat / 8) 30 = true → (dec4 b.toNat b.toNat b.toNat b.toNat).2 = 1 := fun h => by unfold dec4; rw [hc3 h]; rfl
    have pick : ∀ {q : Bool} {x y : Nat × Nat}, (q = true → x.2 = 1) → y.2 = 1 → (cnd q x y).2 = 1 := by
      intro q x y hx hy
      cases q with
      | true => exact hx rfl
      | false => exact hy
    unfold dec8
    refine pick (fun _ => rfl) ?_
    unfold decR
    split
    · rfl
    · rename_i b1
      obtain rfl := hr b1 (by simp)
      exact pick d2 rfl
    · rename_i b1 b2
      obtain rfl := hr b1 (by simp)
      obtain rfl := hr b2 (by simp)
      exact pick d2 (pick d3 rfl)
    · rename_i b1 b2 b3 r'
      obtain rfl := hr b1 (by simp)
      obtain rfl := hr b2 (by simp)
      obtain rfl := hr b3 (by simp)
      exact pick d2 (pick d3 (pick d4 rfl))
  refine key _ fun x hx => ?_
  unfold gs at hx
  simp at hx
  exact hx.2
end Go.Proofs.Tz
