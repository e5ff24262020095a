/-
  Part 7 of a proof (walks and plain facts).
-/
import Derived.Test.YtennjcjjegbhgaaGreatP05

namespace Go.Proofs.YtennjcjjegbhgaaGreat

def Sized (R : Nat → Nat → Int) (n t : Nat) : Prop := ∀ i, i < n → t < i → -(dk R (t + 1)) ≤ 2 * bk R t i t ∧ 2 * bk R t i t ≤ dk R (t + 1)
def Lov (R : Nat → Nat → Int) (t : Nat) : Prop := 3 * dk R (t + 1) * dk R (t + 1) ≤ 4 * (dk R t * dk R (t + 1 + 1) + bk R t (t + 1) t * bk R t (t + 1) t)
def Okt (R : Nat → Nat → Int) (n t : Nat) : Prop := 0 < dk R (t + 1) ∧ dk R (t + 1) < 65536 ∧ Sized R n t
/-- Reduced forms. -/
def RedR (R : Nat → Nat → Int) (n : Nat) : Prop :=
  (∀ i, i < n → ∀ j, j < n → R i j = R j i) ∧ (∀ k, k < n → 0 < dk R (k + 1)) ∧ dk R n ≤ 10000 ∧ (∀ t, t + 1 < n → Sized R n t ∧ Lov R t)

theorem bk_sym {R : Nat → Nat → Int} {n : Nat} (hs : ∀ i, i < n → ∀ j, j < n → R i j = R j i) : ∀ k, k ≤ n → (∀ t, t < k → dk R (t + 1) ≠ 0) → ∀ i j, i < n → j < n → bk R k i j = bk R k j i
  | 0, _, _, i, j, hi, hj => by rw [bk_zero, bk_zero]; exact hs i hi j hj
  | k + 1, hk, hd, i, j, hi, hj => by
    have ih := bk_sym hs k (by omega) (fun t ht => hd t (by omega))
    have h1 := sylv R k (fun t ht => hd t (by omega)) i j
    have h2 := sylv R k (fun t ht => hd t (by omega)) j i
    have e1 := ih i j hi hj
    have e2 := ih i k hi (by omega)
    have e3 := ih k j (by omega) hj
    have hne : dk R k ≠ 0 := by
      cases k with
      | zero => rw [dk_zero]; omega
      | succ k => exact hd k (by omega)
    apply Int.eq_of_mul_eq_mul_left hne
    rw [h1, h2, e1, e2, e3, Int.mul_comm (bk R k k i)]

theorem dk_pos {R : Nat → Nat → Int} {k : Nat} (h : ∀ t, t < k → 0 < dk R (t + 1)) : 0 < dk R k := by
  cases k with
  | zero => rw [dk_zero]; omega
  | succ k => exact h k (by omega)

theorem step_up {C D E x a b y : Int} (hC : 0 ≤ C) (hD : 0 < D) (hE : 0 < E) (hE2 : E < 65536) (h : D * y = E * x - a * b) (hx : -(C * D) ≤ x ∧ x ≤ C * D) (ha : -E ≤ 2 * a ∧ 2 * a ≤ E) (hb : -E ≤ 2 * b ∧ 2 * b ≤ E) :
    -((C + 16384) * E) ≤ y ∧ y ≤ (C + 16384) * E := by
  have hab := mul_bd ha hb (by omega) (by omega)
  have e4 : 2 * a * (2 * b) = 4 * (a * b) := by grind
  rw [e4] at hab
  have hEE : E * E ≤ 65536 * E := Int.mul_le_mul_of_nonneg_right (by omega) (by omega)
  have hED : E * 1 ≤ E * D := Int.mul_le_mul_of_nonneg_left (by omega) (by omega)
  have h1 : E * x ≤ E * (C * D) := Int.mul_le_mul_of_nonneg_left hx.2 (by omega)
  have h2 : E * (-(C * D)) ≤ E * x := Int.mul_le_mul_of_nonneg_left hx.1 (by omega)
  have e5 : E * (-(C * D)) = -(C * (E * D)) := by grind
  have e6 : E * (C * D) = C * (E * D) := by grind
  rw [e6] at h1
  rw [e5] at h2
  constructor
  · rcases Int.lt_or_le y (-((C + 16384) * E)) with hlt | hle
    · exfalso
      have := Int.mul_le_mul_of_nonneg_left (show y ≤ -((C + 16384) * E) - 1 by omega) (show 0 ≤ D by omega)
      have e7 : D * (-((C + 16384) * E) - 1) = -(C * (E * D)) - 16384 * (E * D) - D := by grind
      rw [e7, h] at this
      omega
    · exact hle
  · rcases Int.lt_or_le ((C + 16384) * E) y with hlt | hle
    · exfalso
      have := Int.mul_le_mul_of_nonneg_left (show (C + 16384) * E + 1 ≤ y by omega) (show 0 ≤ D by omega)
      have e7 : D * ((C + 16384) * E + 1) = C * (E * D) + 16384 * (E * D) + D := by grind
      rw [e7, h] at this
      omega
    · exact hle

theorem bound_up {R : Nat → Nat → Int} {n : Nat} (hs : ∀ i, i < n → ∀ j, j < n → R i j = R j i) (hb : ∀ i, i < n → ∀ j, j < n → -262144 ≤ R i j ∧ R i j ≤ 262144) :
    ∀ k, (∀ t, t < k → Okt R n t) → ∀ i j, k ≤ i → i < n → k ≤ j → j < n → -((262144 + k * 16384) * dk R k) ≤ bk R k i j ∧ bk R k i j ≤ (262144 + k * 16384) * dk R k
  | 0, _, i, j, _, hi, _, hj => by
    rw [bk_zero, dk_zero]
    have := hb i hi j hj
    simp; omega
  | k + 1, hk, i, j, hki, hi, hkj, hj => by
    have ih := bound_up hs hb k (fun t ht => hk t (by omega)) i j (by omega) hi (by omega) hj
    obtain ⟨hE, hE2, hsz⟩ := hk k (by omega)
    have hne : ∀ t, t < k → dk R (t + 1) ≠ 0 := fun t ht => by have := (hk t (by omega)).1; omega
    have hD : 0 < dk R k := dk_pos (fun t ht => (hk t (by omega)).1)
    have h1 := hsz i hi (by omega)
    have h2 := hsz j hj (by omega)
    rw [bk_sym hs k (by omega) hne j k hj (by omega)] at h2
    have := step_up (C := 262144 + k * 16384) (by omega) hD hE hE2 (sylv R k hne i j) ih h1 h2
    have e : ((262144 : Int) + (k + 1 : Nat) * 16384) = 262144 + k * 16384 + 16384 := by omega
    rw [e]; exact this

/-- A stage of the elimination. -/
def Stg (R : Nat → Nat → Int) (n k : Nat) (stg : List (List Int)) : Prop := stg.length = n - k ∧ ∀ i j, i < n - k → j < n - k → ent stg i j = bk R k (k + i) (k + j)

theorem bound35 {R : Nat → Nat → Int} {n : Nat} (hn : n ≤ 8) (hs : ∀ i, i < n → ∀ j, j < n → R i j = R j i) (hb : ∀ i, i < n → ∀ j, j < n → -262144 ≤ R i j ∧ R i j ≤ 262144)
    {k : Nat} (hkn : k < n) (hk : ∀ t, t < k → Okt R n t) {i j : Nat} (hki : k ≤ i) (hi : i < n) (hkj : k ≤ j) (hj : j < n) : -34359738368 ≤ bk R k i j ∧ bk R k i j ≤ 34359738368 := by
  have h := bound_up hs hb k hk i j hki hi hkj hj
  have hD : 0 < dk R k := dk_pos (fun t ht => (hk t (by omega)).1)
  have hD2 : dk R k < 65536 := by
    cases k with
    | zero => rw [dk_zero]; omega
    | succ k => exact (hk k (by omega)).2.1
  have h3 : ((262144 : Int) + k * 16384) * dk R k ≤ 524288 * 65536 := Int.mul_le_mul (by omega) (by omega) (by omega) (by omega)
  omega

theorem nxE_exact {R : Nat → Nat → Int} {n : Nat} (hn : n ≤ 8) (hs : ∀ i, i < n → ∀ j, j < n → R i j = R j i) (hb : ∀ i, i < n → ∀ j, j < n → -262144 ≤ R i j ∧ R i j ≤ 262144)
    {k : Nat} (hkn : k + 1 < n) (hk : ∀ t, t < k + 1 → Okt R n t) {stg : List (List Int)} (hst : Stg R n k stg) {i j : Nat} (hi : i < n - (k + 1)) (hj : j < n - (k + 1)) :
    nxE stg (dk R k) i j = bk R (k + 1) (k + 1 + i) (k + 1 + j) := by
  have hk' : ∀ t, t < k → Okt R n t := fun t ht => hk t (by omega)
  have hne : ∀ t, t < k → dk R (t + 1) ≠ 0 := fun t ht => by have := (hk t (by omega)).1; omega
  have hD : 0 < dk R k := dk_pos (fun t ht => (hk' t ht).1)
  obtain ⟨hE, hE2, hsz⟩ := hk k (by omega)
  have e00 := hst.2 0 0 (by omega) (by omega)
  have eij := hst.2 (i + 1) (j + 1) (by omega) (by omega)
  have ei0 := hst.2 (i + 1) 0 (by omega) (by omega)
  have e0j := hst.2 0 (j + 1) (by omega) (by omega)
  simp only [Nat.add_zero] at e00 ei0 e0j
  rw [← dk_succ] at e00
  rw [show k + (i + 1) = k + 1 + i by omega] at eij ei0
  rw [show k + (j + 1) = k + 1 + j by omega] at eij e0j
  have b1 := bound35 hn hs hb (by omega) hk' (i := k + 1 + i) (j := k + 1 + j) (by omega) (by omega) (by omega) (by omega)
  have b2 := bound35 hn hs hb (by omega) hk' (i := k + 1 + i) (j := k) (by omega) (by omega) (by omega) (by omega)
  have b3 := bound35 hn hs hb (by omega) hk' (i := k) (j := k + 1 + j) (by omega) (by omega) (by omega) (by omega)
  have b4 := bound35 hn hs hb (by omega) hk (i := k + 1 + i) (j := k + 1 + j) (by omega) (by omega) (by omega) (by omega)
  have hs1 := hsz (k + 1 + i) (by omega) (by omega)
  have m1 := mul_bd (a := dk R (k + 1)) (A := 65536) ⟨by omega, by omega⟩ b1 (by omega) (by omega)
  have m2 := mul_bd (a := bk R k (k + 1 + i) k) (A := 65536) ⟨by omega, by omega⟩ b3 (by omega) (by omega)
  have hsy := sylv R k hne (k + 1 + i) (k + 1 + j)
  unfold nxE
  rw [e00, eij, ei0, e0j]
  rw [IntWalk.wrap64_in (dk R (k + 1) * bk R k (k + 1 + i) (k + 1 + j)) ⟨by omega, by omega⟩, IntWalk.wrap64_in (bk R k (k + 1 + i) k * bk R k k (k + 1 + j)) ⟨by omega, by omega⟩]
  rw [IntWalk.wrap64_in (dk R (k + 1) * bk R k (k + 1 + i) (k + 1 + j) - bk R k (k + 1 + i) k * bk R k k (k + 1 + j)) ⟨by omega, by omega⟩]
  rw [← hsy, Int.mul_tdiv_cancel_left _ (by omega), IntWalk.wrap64_in _ ⟨by omega, by omega⟩]

theorem redM_iff {R : Nat → Nat → Int} {n : Nat} (hn : n ≤ 8) (hs : ∀ i, i < n → ∀ j, j < n → R i j = R j i) (hb : ∀ i, i < n → ∀ j, j < n → -262144 ≤ R i j ∧ R i j ≤ 262144) :
    ∀ f k stg, k < n → n ≤ f + k → (∀ t, t < k → Okt R n t) → Stg R n k stg →
      (redM f stg (dk R k) = true ↔ (∀ t, k ≤ t → t + 1 < n → Okt R n t ∧ Lov R t) ∧ 0 < dk R n ∧ dk R n ≤ 10000)
  | 0, k, stg, hk, hf, _, _ => by omega
  | f + 1, k, stg, hk, hf, hok, hst => by
    have e00 := hst.2 0 0 (by omega) (by omega)
    simp only [Nat.add_zero] at e00
    rw [← dk_succ] at e00
    by_cases hl : n = k + 1
    · subst hl
      rw [redM, if_pos (by rw [hst.1]; omega), e00]
      simp only [Bool.and_eq_true, decide_eq_true_iff]
      exact ⟨fun h => ⟨fun t h1 h2 => by omega, h⟩, fun h => h.2⟩
    · rw [redM, if_neg (by rw [hst.1]; omega)]
      have hshort : ShortP stg ↔ Okt R n k := by
        unfold ShortP Okt Sized ShortE
        rw [e00, hst.1]
        refine and_congr Iff.rfl (and_congr Iff.rfl ⟨fun h i hi hik => ?_, fun h i hi hi1 => ?_⟩)
        · have h1 := h (i - k) (by omega) (by omega)
          have e := hst.2 (i - k) 0 (by omega) (by omega)
          rw [show k + (i - k) = i by omega, Nat.add_zero] at e
          have b1 := bound35 hn hs hb (by omega) hok (i := i) (j := k) (by omega) (by omega) (by omega) (by omega)
          rw [e, IntWalk.wrap64_in (2 * bk R k i k) ⟨by omega, by omega⟩, IntWalk.wrap64_in (-2 * bk R k i k) ⟨by omega, by omega⟩] at h1
          omega
        · have h1 := h (k + i) (by omega) (by omega)
          have e := hst.2 i 0 (by omega) (by omega)
          rw [Nat.add_zero] at e
          have b1 := bound35 hn hs hb (by omega) hok (i := k + i) (j := k) (by omega) (by omega) (by omega) (by omega)
          rw [e, IntWalk.wrap64_in (2 * bk R k (k + i) k) ⟨by omega, by omega⟩, IntWalk.wrap64_in (-2 * bk R k (k + i) k) ⟨by omega, by omega⟩]
          omega
      by_cases hP : ShortP stg
      · rw [if_pos hP]
        have hok1 : ∀ t, t < k + 1 → Okt R n t := fun t ht => by
          by_cases e : t = k
          · subst e; exact hshort.1 hP
          · exact hok t (by omega)
        obtain ⟨hE, hE2, hsz⟩ := hok1 k (by omega)
        have hD : 0 < dk R k := dk_pos (fun t ht => (hok t ht).1)
        have hD2 : dk R k < 65536 := by
          cases k with
          | zero => rw [dk_zero]; omega
          | succ k => exact (hok k (by omega)).2.1
        have hnx : ∀ i j, i < n - (k + 1) → j < n - (k + 1) → nxE stg (dk R k) i j = bk R (k + 1) (k + 1 + i) (k + 1 + j) := fun i j hi hj => nxE_exact hn hs hb (by omega) hok1 hst hi hj
        have hst' : Stg R n (k + 1) (nxM stg (dk R k)) := by
          unfold nxM
          rw [hst.1]
          refine ⟨by rw [mkRows_length]; omega, fun i j hi hj => ?_⟩
          rw [ent, ent_mkRows (by omega) (by omega)]
          exact hnx i j hi hj
        have hlov : LovP stg (dk R k) ↔ ¬ Lov R k := by
          unfold LovP Lov
          have e10 : ent stg 1 0 = bk R k (k + 1) k := hst.2 1 0 (by omega) (by omega)
          have en := hnx 0 0 (by omega) (by omega)
          simp only [Nat.add_zero] at en
          rw [← dk_succ] at en
          rw [en, e10, e00]
          have b4 := bound35 hn hs hb (by omega) hok1 (i := k + 1) (j := k + 1) (by omega) (by omega) (by omega) (by omega)
          rw [← dk_succ] at b4
          have hs1 := hsz (k + 1) (by omega) (by omega)
          have m1 := mul_bd (a := dk R k) (A := 65536) ⟨by omega, by omega⟩ b4 (by omega) (by omega)
          have m2 := mul_bd (a := bk R k (k + 1) k) (b := bk R k (k + 1) k) (A := 65536) (B := 65536) ⟨by omega, by omega⟩ ⟨by omega, by omega⟩ (by omega) (by omega)
          have m3 := mul_bd (a := 3 * dk R (k + 1)) (b := dk R (k + 1)) (A := 196608) (B := 65536) ⟨by omega, by omega⟩ ⟨by omega, by omega⟩ (by omega) (by omega)
          rw [IntWalk.wrap64_in (dk R k * dk R (k + 1 + 1)) ⟨by omega, by omega⟩, IntWalk.wrap64_in (bk R k (k + 1) k * bk R k (k + 1) k) ⟨by omega, by omega⟩, IntWalk.wrap64_in (3 * dk R (k + 1) * dk R (k + 1)) ⟨by omega, by omega⟩]
          rw [IntWalk.wrap64_in (dk R k * dk R (k + 1 + 1) + bk R k (k + 1) k * bk R k (k + 1) k) ⟨by omega, by omega⟩]
          rw [IntWalk.wrap64_in (4 * _) ⟨by omega, by omega⟩]
          omega
        by_cases hL : Lov R k
        · rw [if_neg (by rw [hlov]; exact fun h => h hL), e00, redM_iff hn hs hb f (k + 1) _ (by omega) (by omega) hok1 hst']
          refine and_congr ⟨fun h t h1 h2 => ?_, fun h t h1 h2 => h t (by omega) h2⟩ Iff.rfl
          by_cases e : t = k
          · subst e; exact ⟨hok1 t (by omega), hL⟩
          · exact h t (by omega) h2
        · rw [if_pos (hlov.2 hL)]
          exact ⟨fun h => (nomatch h), fun h => absurd (h.1 k (Nat.le_refl _) (by omega)).2 hL⟩
      · rw [if_neg hP]
        exact ⟨fun h => (nomatch h), fun h => absurd (hshort.2 (h.1 k (Nat.le_refl _) (by omega)).1) hP⟩

end Go.Proofs.YtennjcjjegbhgaaGreat

/-
  Plain: the entries and minors of a reduced form are small, so that lll.IsReduced decides it.
-/
namespace Go.Proofs.YtennjcjjegbhgaaGreat

def tri : Nat → Nat
  | 0 => 0
  | k + 1 => tri k + (k + 1)
theorem nroot {x a b C : Nat} (h : x ^ a ≤ C) (hC : C < (b + 1) ^ a) : x ≤ b := by
  rcases Nat.lt_or_ge b x with hlt | hge
  · have := Nat.pow_le_pow_left (show b + 1 ≤ x by omega) a
    omega
  · exact hge
theorem chain1 {e : Nat → Nat} (h : ∀ k, 1 ≤ k → k < 1 → e k ^ (k + 1) ≤ 2 ^ tri k * e (k + 1) ^ k) (h1 : e 1 ≤ 10000) : ∀ k, 1 ≤ k → k ≤ 1 → e k < 65536 := by

  intro k hk1 hk2
  match k, hk1, hk2 with
  | 1, _, _ => exact Nat.lt_of_le_of_lt h1 (by decide)
  | k + 2, _, hk2 => omega
theorem chain2 {e : Nat → Nat} (h : ∀ k, 1 ≤ k → k < 2 → e k ^ (k + 1) ≤ 2 ^ tri k * e (k + 1) ^ k) (h2 : e 2 ≤ 10000) : ∀ k, 1 ≤ k → k ≤ 2 → e k < 65536 := by
  have h1 : e 1 ≤ 141 := nroot (a := 2) (Nat.le_trans (h 1 (by omega) (by omega)) (Nat.mul_le_mul_left _ (Nat.pow_le_pow_left h2 1))) (by decide +kernel)
  intro k hk1 hk2
  match k, hk1, hk2 with
  | 1, _, _ => exact Nat.lt_of_le_of_lt h1 (by decide)
  | 2, _, _ => exact Nat.lt_of_le_of_lt h2 (by decide)
  | k + 3, _, hk2 => omega
theorem chain3 {e : Nat → Nat} (h : ∀ k, 1 ≤ k → k < 3 → e k ^ (k + 1) ≤ 2 ^ tri k * e (k + 1) ^ k) (h3 : e 3 ≤ 10000) : ∀ k, 1 ≤ k → k ≤ 3 → e k < 65536 := by
  have h2 : e 2 ≤ 928 := nroot (a := 3) (Nat.le_trans (h 2 (by omega) (by omega)) (Nat.mul_le_mul_left _ (Nat.pow_le_pow_left h3 2))) (by decide +kernel)
  have h1 : e 1 ≤ 43 := nroot (a := 2) (Nat.le_trans (h 1 (by omega) (by omega)) (Nat.mul_le_mul_left _ (Nat.pow_le_pow_left h2 1))) (by decide +kernel)
  intro k hk1 hk2
  match k, hk1, hk2 with
  | 1, _, _ => exact Nat.lt_of_le_of_lt h1 (by decide)
  | 2, _, _ => exact Nat.lt_of_le_of_lt h2 (by decide)
  | 3, _, _ => exact Nat.lt_of_le_of_lt h3 (by decide)
  | k + 4, _, hk2 => omega
theorem chain4 {e : Nat → Nat} (h : ∀ k, 1 ≤ k → k < 4 → e k ^ (k + 1) ≤ 2 ^ tri k * e (k + 1) ^ k) (h4 : e 4 ≤ 10000) : ∀ k, 1 ≤ k → k ≤ 4 → e k < 65536 := by
  have h3 : e 3 ≤ 2828 := nroot (a := 4) (Nat.le_trans (h 3 (by omega) (by omega)) (Nat.mul_le_mul_left _ (Nat.pow_le_pow_left h4 3))) (by decide +kernel)
  have h2 : e 2 ≤ 399 := nroot (a := 3) (Nat.le_trans (h 2 (by omega) (by omega)) (Nat.mul_le_mul_left _ (Nat.pow_le_pow_left h3 2))) (by decide +kernel)
  have h1 : e 1 ≤ 28 := nroot (a := 2) (Nat.le_trans (h 1 (by omega) (by omega)) (Nat.mul_le_mul_left _ (Nat.pow_le_pow_left h2 1))) (by decide +kernel)
  intro k hk1 hk2
  match k, hk1, hk2 with
  | 1, _, _ => exact Nat.lt_of_le_of_lt h1 (by decide)
  | 2, _, _ => exact Nat.lt_of_le_of_lt h2 (by decide)
  | 3, _, _ => exact Nat.lt_of_le_of_lt h3 (by decide)
  | 4, _, _ => exact Nat.lt_of_le_of_lt h4 (by decide)
  | k + 5, _, hk2 => omega
theorem chain5 {e : Nat → Nat} (h : ∀ k, 1 ≤ k → k < 5 → e k ^ (k + 1) ≤ 2 ^ tri k * e (k + 1) ^ k) (h5 : e 5 ≤ 10000) : ∀ k, 1 ≤ k → k ≤ 5 → e k < 65536 := by
  have h4 : e 4 ≤ 6339 := nroot (a := 5) (Nat.le_trans (h 4 (by omega) (by omega)) (Nat.mul_le_mul_left _ (Nat.pow_le_pow_left h5 4))) (by decide +kernel)
  have h3 : e 3 ≤ 2009 := nroot (a := 4) (Nat.le_trans (h 3 (by omega) (by omega)) (Nat.mul_le_mul_left _ (Nat.pow_le_pow_left h4 3))) (by decide +kernel)
  have h2 : e 2 ≤ 318 := nroot (a := 3) (Nat.le_trans (h 2 (by omega) (by omega)) (Nat.mul_le_mul_left _ (Nat.pow_le_pow_left h3 2))) (by decide +kernel)
  have h1 : e 1 ≤ 25 := nroot (a := 2) (Nat.le_trans (h 1 (by omega) (by omega)) (Nat.mul_le_mul_left _ (Nat.pow_le_pow_left h2 1))) (by decide +kernel)
  intro k hk1 hk2
  match k, hk1, hk2 with
  | 1, _, _ => exact Nat.lt_of_le_of_lt h1 (by decide)
  | 2, _, _ => exact Nat.lt_of_le_of_lt h2 (by decide)
  | 3, _, _ => exact Nat.lt_of_le_of_lt h3 (by decide)
  | 4, _, _ => exact Nat.lt_of_le_of_lt h4 (by decide)
  | 5, _, _ => exact Nat.lt_of_le_of_lt h5 (by decide)
  | k + 6, _, hk2 => omega
theorem chain6 {e : Nat → Nat} (h : ∀ k, 1 ≤ k → k < 6 → e k ^ (k + 1) ≤ 2 ^ tri k * e (k + 1) ^ k) (h6 : e 6 ≤ 10000) : ∀ k, 1 ≤ k → k ≤ 6 → e k < 65536 := by
  have h5 : e 5 ≤ 12187 := nroot (a := 6) (Nat.le_trans (h 5 (by omega) (by omega)) (Nat.mul_le_mul_left _ (Nat.pow_le_pow_left h6 5))) (by decide +kernel)
  have h4 : e 4 ≤ 7426 := nroot (a := 5) (Nat.le_trans (h 4 (by omega) (by omega)) (Nat.mul_le_mul_left _ (Nat.pow_le_pow_left h5 4))) (by decide +kernel)
  have h3 : e 3 ≤ 2262 := nroot (a := 4) (Nat.le_trans (h 3 (by omega) (by omega)) (Nat.mul_le_mul_left _ (Nat.pow_le_pow_left h4 3))) (by decide +kernel)
  have h2 : e 2 ≤ 344 := nroot (a := 3) (Nat.le_trans (h 2 (by omega) (by omega)) (Nat.mul_le_mul_left _ (Nat.pow_le_pow_left h3 2))) (by decide +kernel)
  have h1 : e 1 ≤ 26 := nroot (a := 2) (Nat.le_trans (h 1 (by omega) (by omega)) (Nat.mul_le_mul_left _ (Nat.pow_le_pow_left h2 1))) (by decide +kernel)
  intro k hk1 hk2
  match k, hk1, hk2 with
  | 1, _, _ => exact Nat.lt_of_le_of_lt h1 (by decide)
  | 2, _, _ => exact Nat.lt_of_le_of_lt h2 (by decide)
  | 3, _, _ => exact Nat.lt_of_le_of_lt h3 (by decide)
  | 4, _, _ => exact Nat.lt_of_le_of_lt h4 (by decide)
  | 5, _, _ => exact Nat.lt_of_le_of_lt h5 (by decide)
  | 6, _, _ => exact Nat.lt_of_le_of_lt h6 (by decide)
  | k + 7, _, hk2 => omega
theorem chain7 {e : Nat → Nat} (h : ∀ k, 1 ≤ k → k < 7 → e k ^ (k + 1) ≤ 2 ^ tri k * e (k + 1) ^ k) (h7 : e 7 ≤ 10000) : ∀ k, 1 ≤ k → k ≤ 7 → e k < 65536 := by
  have h6 : e 6 ≤ 21461 := nroot (a := 7) (Nat.le_trans (h 6 (by omega) (by omega)) (Nat.mul_le_mul_left _ (Nat.pow_le_pow_left h7 6))) (by decide +kernel)
  have h5 : e 5 ≤ 23029 := nroot (a := 6) (Nat.le_trans (h 5 (by omega) (by omega)) (Nat.mul_le_mul_left _ (Nat.pow_le_pow_left h6 5))) (by decide +kernel)
  have h4 : e 4 ≤ 12356 := nroot (a := 5) (Nat.le_trans (h 4 (by omega) (by omega)) (Nat.mul_le_mul_left _ (Nat.pow_le_pow_left h5 4))) (by decide +kernel)
  have h3 : e 3 ≤ 3314 := nroot (a := 4) (Nat.le_trans (h 3 (by omega) (by omega)) (Nat.mul_le_mul_left _ (Nat.pow_le_pow_left h4 3))) (by decide +kernel)
  have h2 : e 2 ≤ 444 := nroot (a := 3) (Nat.le_trans (h 2 (by omega) (by omega)) (Nat.mul_le_mul_left _ (Nat.pow_le_pow_left h3 2))) (by decide +kernel)
  have h1 : e 1 ≤ 29 := nroot (a := 2) (Nat.le_trans (h 1 (by omega) (by omega)) (Nat.mul_le_mul_left _ (Nat.pow_le_pow_left h2 1))) (by decide +kernel)
  intro k hk1 hk2
  match k, hk1, hk2 with
  | 1, _, _ => exact Nat.lt_of_le_of_lt h1 (by decide)
  | 2, _, _ => exact Nat.lt_of_le_of_lt h2 (by decide)
  | 3, _, _ => exact Nat.lt_of_le_of_lt h3 (by decide)
  | 4, _, _ => exact Nat.lt_of_le_of_lt h4 (by decide)
  | 5, _, _ => exact Nat.lt_of_le_of_lt h5 (by decide)
  | 6, _, _ => exact Nat.lt_of_le_of_lt h6 (by decide)
  | 7, _, _ => exact Nat.lt_of_le_of_lt h7 (by decide)
  | k + 8, _, hk2 => omega
theorem chain8 {e : Nat → Nat} (h : ∀ k, 1 ≤ k → k < 8 → e k ^ (k + 1) ≤ 2 ^ tri k * e (k + 1) ^ k) (h8 : e 8 ≤ 10000) : ∀ k, 1 ≤ k → k ≤ 8 → e k < 65536 := by
  have h7 : e 7 ≤ 35777 := nroot (a := 8) (Nat.le_trans (h 7 (by omega) (by omega)) (Nat.mul_le_mul_left _ (Nat.pow_le_pow_left h8 7))) (by decide +kernel)
  have h6 : e 6 ≤ 63999 := nroot (a := 7) (Nat.le_trans (h 6 (by omega) (by omega)) (Nat.mul_le_mul_left _ (Nat.pow_le_pow_left h7 6))) (by decide +kernel)
  have h5 : e 5 ≤ 57242 := nroot (a := 6) (Nat.le_trans (h 5 (by omega) (by omega)) (Nat.mul_le_mul_left _ (Nat.pow_le_pow_left h6 5))) (by decide +kernel)
  have h4 : e 4 ≤ 25599 := nroot (a := 5) (Nat.le_trans (h 4 (by omega) (by omega)) (Nat.mul_le_mul_left _ (Nat.pow_le_pow_left h5 4))) (by decide +kernel)
  have h3 : e 3 ≤ 5724 := nroot (a := 4) (Nat.le_trans (h 3 (by omega) (by omega)) (Nat.mul_le_mul_left _ (Nat.pow_le_pow_left h4 3))) (by decide +kernel)
  have h2 : e 2 ≤ 639 := nroot (a := 3) (Nat.le_trans (h 2 (by omega) (by omega)) (Nat.mul_le_mul_left _ (Nat.pow_le_pow_left h3 2))) (by decide +kernel)
  have h1 : e 1 ≤ 35 := nroot (a := 2) (Nat.le_trans (h 1 (by omega) (by omega)) (Nat.mul_le_mul_left _ (Nat.pow_le_pow_left h2 1))) (by decide +kernel)
  intro k hk1 hk2
  match k, hk1, hk2 with
  | 1, _, _ => exact Nat.lt_of_le_of_lt h1 (by decide)
  | 2, _, _ => exact Nat.lt_of_le_of_lt h2 (by decide)
  | 3, _, _ => exact Nat.lt_of_le_of_lt h3 (by decide)
  | 4, _, _ => exact Nat.lt_of_le_of_lt h4 (by decide)
  | 5, _, _ => exact Nat.lt_of_le_of_lt h5 (by decide)
  | 6, _, _ => exact Nat.lt_of_le_of_lt h6 (by decide)
  | 7, _, _ => exact Nat.lt_of_le_of_lt h7 (by decide)
  | 8, _, _ => exact Nat.lt_of_le_of_lt h8 (by decide)
  | k + 9, _, hk2 => omega
theorem chain {e : Nat → Nat} {n : Nat} (h0 : e 0 = 1) (hp : ∀ k, k ≤ n → 0 < e k) (h : ∀ k, k + 1 < n → e (k + 1) * e (k + 1) ≤ 2 * (e k * e (k + 2))) :
    ∀ k, k < n → e k ^ (k + 1) ≤ 2 ^ tri k * e (k + 1) ^ k
  | 0, _ => by simp [h0, tri]
  | k + 1, hk => by
    have ih := chain h0 hp h k (by omega)
    have h1 := Nat.pow_le_pow_left (h k (by omega)) (k + 1)
    have e1 : (e (k + 1) * e (k + 1)) ^ (k + 1) = e (k + 1) ^ k * e (k + 1) ^ (k + 1 + 1) := by
      rw [Nat.mul_pow, ← Nat.pow_add, ← Nat.pow_add]; congr 1; omega
    have e2 : (2 * (e k * e (k + 2))) ^ (k + 1) = 2 ^ (k + 1) * (e k ^ (k + 1) * e (k + 2) ^ (k + 1)) := by rw [Nat.mul_pow, Nat.mul_pow]
    rw [e1, e2] at h1
    have h2 : 2 ^ (k + 1) * (e k ^ (k + 1) * e (k + 2) ^ (k + 1)) ≤ 2 ^ (k + 1) * ((2 ^ tri k * e (k + 1) ^ k) * e (k + 2) ^ (k + 1)) := Nat.mul_le_mul_left _ (Nat.mul_le_mul_right _ ih)
    have e3 : 2 ^ (k + 1) * ((2 ^ tri k * e (k + 1) ^ k) * e (k + 2) ^ (k + 1)) = e (k + 1) ^ k * (2 ^ tri (k + 1) * e (k + 1 + 1) ^ (k + 1)) := by
      rw [tri, Nat.pow_add 2 (tri k)]
      generalize 2 ^ (k + 1) = A
      generalize e (k + 2) ^ (k + 1) = B
      generalize 2 ^ tri k = C
      generalize e (k + 1) ^ k = D
      grind
    rw [e3] at h2
    exact Nat.le_of_mul_le_mul_left (Nat.le_trans h1 h2) (Nat.pow_pos (hp (k + 1) (by omega)))

theorem chain_all {e : Nat → Nat} {n : Nat} (h1 : 1 ≤ n) (h8 : n ≤ 8) (h : ∀ k, 1 ≤ k → k < n → e k ^ (k + 1) ≤ 2 ^ tri k * e (k + 1) ^ k) (hn : e n ≤ 10000) : ∀ k, 1 ≤ k → k ≤ n → e k < 65536 := by
  match n, h1, h8 with
  | 1, _, _ => exact chain1 h hn
  | 2, _, _ => exact chain2 h hn
  | 3, _, _ => exact chain3 h hn
  | 4, _, _ => exact chain4 h hn
  | 5, _, _ => exact chain5 h hn
  | 6, _, _ => exact chain6 h hn
  | 7, _, _ => exact chain7 h hn
  | 8, _, _ => exact chain8 h hn
  | n + 9, _, h8 => omega

theorem dk_small {R : Nat → Nat → Int} {n : Nat} (h1 : 1 ≤ n) (h8 : n ≤ 8) (h : RedR R n) : ∀ k, k < n → dk R (k + 1) < 65536 := by
  obtain ⟨_, hp, hd, hl⟩ := h
  have hpos : ∀ k, k ≤ n → 0 < dk R k := fun k hk => dk_pos (fun t ht => hp t (by omega))
  intro k hk
  have hh := chain (e := fun k => (dk R k).toNat) (n := n) (by rw [dk_zero]; rfl) (fun k hk => by have := hpos k hk; omega) (fun k hk => ?_)
  · have := chain_all h1 h8 (fun k _ hk => hh k hk) (by omega) (k + 1) (by omega) (by omega)
    omega
  · obtain ⟨hs, hlv⟩ := hl k hk
    have h1 := hs (k + 1) (by omega) (by omega)
    have m := mul_bd h1 h1 (by have := hpos (k + 1) (by omega); omega) (by have := hpos (k + 1) (by omega); omega)
    unfold Lov at hlv
    have e1 : 2 * bk R k (k + 1) k * (2 * bk R k (k + 1) k) = 4 * (bk R k (k + 1) k * bk R k (k + 1) k) := by grind
    have e2 : 3 * dk R (k + 1) * dk R (k + 1) = 3 * (dk R (k + 1) * dk R (k + 1)) := by grind
    rw [e1] at m
    rw [e2] at hlv
    have p0 := hpos k (by omega)
    have p1 := hpos (k + 1) (by omega)
    have p2 := hpos (k + 2) (by omega)
    have c0 : ((dk R k).toNat : Int) = dk R k := Int.toNat_of_nonneg (by omega)
    have c1 : ((dk R (k + 1)).toNat : Int) = dk R (k + 1) := Int.toNat_of_nonneg (by omega)
    have c2 : ((dk R (k + 2)).toNat : Int) = dk R (k + 2) := Int.toNat_of_nonneg (by omega)
    have : (((dk R (k + 1)).toNat * (dk R (k + 1)).toNat : Nat) : Int) ≤ ((2 * ((dk R k).toNat * (dk R (k + 2)).toNat) : Nat) : Int) := by
      push_cast
      rw [c0, c1, c2]
      have : dk R (k + 2) = dk R (k + 1 + 1) := rfl
      rw [this]
      omega
    exact Int.ofNat_le.1 this

theorem step_dn {C D E x a b y : Int} (hC : 0 ≤ C) (hD : 0 < D) (hE : 0 < E) (hE2 : E < 65536) (h : D * y = E * x - a * b) (hy : -(C * E) ≤ y ∧ y ≤ C * E) (ha : -E ≤ 2 * a ∧ 2 * a ≤ E) (hb : -E ≤ 2 * b ∧ 2 * b ≤ E) :
    -((C + 16384) * D) ≤ x ∧ x ≤ (C + 16384) * D := by
  have hab := mul_bd ha hb (by omega) (by omega)
  have e4 : 2 * a * (2 * b) = 4 * (a * b) := by grind
  rw [e4] at hab
  have hEE : E * E ≤ 65536 * E := Int.mul_le_mul_of_nonneg_right (by omega) (by omega)
  have hED : E * 1 ≤ E * D := Int.mul_le_mul_of_nonneg_left (by omega) (by omega)
  have h1 : D * y ≤ D * (C * E) := Int.mul_le_mul_of_nonneg_left hy.2 (by omega)
  have h2 : D * (-(C * E)) ≤ D * y := Int.mul_le_mul_of_nonneg_left hy.1 (by omega)
  have e5 : D * (-(C * E)) = -(C * (E * D)) := by grind
  have e6 : D * (C * E) = C * (E * D) := by grind
  rw [e6] at h1
  rw [e5] at h2
  constructor
  · rcases Int.lt_or_le x (-((C + 16384) * D)) with hlt | hle
    · exfalso
      have := Int.mul_le_mul_of_nonneg_left (show x ≤ -((C + 16384) * D) - 1 by omega) (show 0 ≤ E by omega)
      have e7 : E * (-((C + 16384) * D) - 1) = -(C * (E * D)) - 16384 * (E * D) - E := by grind
      rw [e7] at this
      omega
    · exact hle
  · rcases Int.lt_or_le ((C + 16384) * D) x with hlt | hle
    · exfalso
      have := Int.mul_le_mul_of_nonneg_left (show (C + 16384) * D + 1 ≤ x by omega) (show 0 ≤ E by omega)
      have e7 : E * ((C + 16384) * D + 1) = C * (E * D) + 16384 * (E * D) + E := by grind
      rw [e7] at this
      omega
    · exact hle

theorem bound_dn {R : Nat → Nat → Int} {n : Nat} (hs : ∀ i, i < n → ∀ j, j < n → R i j = R j i) (hp : ∀ k, k < n → 0 < dk R (k + 1)) (hp2 : ∀ k, k < n → dk R (k + 1) < 65536) (hz : ∀ t, t + 1 < n → Sized R n t)
    {i : Nat} (hi : i < n) : ∀ m j k : Nat, j = k + m → j ≤ i → -((65535 + (m : Int) * 16384) * dk R k) ≤ bk R k i j ∧ bk R k i j ≤ (65535 + (m : Int) * 16384) * dk R k
  | 0, j, k, hjk, hj => by
    have hjk : j = k := by omega
    subst hjk
    have hD : 0 < dk R j := dk_pos (fun t ht => hp t (by omega))
    have hE := hp j (by omega)
    have hE2 := hp2 j (by omega)
    have hle : -(dk R (j + 1)) ≤ bk R j i j ∧ bk R j i j ≤ dk R (j + 1) := by
      by_cases e : i = j
      · subst e; rw [← dk_succ]; omega
      · have := hz j (by omega) i hi (by omega); omega
    have : (65535 : Int) * 1 ≤ 65535 * dk R j := Int.mul_le_mul_of_nonneg_left (by omega) (by omega)
    have e : ((65535 : Int) + (0 : Nat) * 16384) = 65535 := by omega
    show -((65535 + ((0 : Nat) : Int) * 16384) * dk R j) ≤ _ ∧ _ ≤ (65535 + ((0 : Nat) : Int) * 16384) * dk R j
    rw [e]
    omega
  | m + 1, j, k, hjk, hj => by
    have ih := bound_dn hs hp hp2 hz hi m j (k + 1) (by omega) hj
    have hne : ∀ t, t < k → dk R (t + 1) ≠ 0 := fun t ht => by have := hp t (by omega); omega
    have hD : 0 < dk R k := dk_pos (fun t ht => hp t (by omega))
    have h1 := hz k (by omega) i hi (by omega)
    have h2 := hz k (by omega) j (by omega) (by omega)
    rw [bk_sym hs k (by omega) hne j k (by omega) (by omega)] at h2
    have := step_dn (C := 65535 + m * 16384) (by omega) hD (hp k (by omega)) (hp2 k (by omega)) (sylv R k hne i j) ih h1 h2
    have e : ((65535 : Int) + (m + 1 : Nat) * 16384) = 65535 + m * 16384 + 16384 := by omega
    rw [e]; exact this

theorem ent_small {R : Nat → Nat → Int} {n : Nat} (h1 : 1 ≤ n) (h8 : n ≤ 8) (h : RedR R n) : ∀ i, i < n → ∀ j, j < n → -262144 < R i j ∧ R i j < 262144 := by
  have hsm := dk_small h1 h8 h
  obtain ⟨hs, hp, hd, hl⟩ := h
  have key : ∀ i, i < n → ∀ j, j ≤ i → -262144 < R i j ∧ R i j < 262144 := by
    intro i hi j hj
    have := bound_dn hs hp hsm (fun t ht => (hl t ht).1) hi j j 0 (by omega) hj
    rw [bk_zero, dk_zero, Int.mul_one] at this
    have hj8 : (j : Int) ≤ 7 := by omega
    omega
  intro i hi j hj
  rcases Nat.le_total j i with h | h
  · exact key i hi j h
  · rw [hs i hi j hj]; exact key j hj i h

/-- What lll.IsReduced decides. -/
def RedP (rows : List (List Int)) : Prop := 1 ≤ rows.length ∧ rows.length ≤ 8 ∧ Sq rows ∧ RedR (ent rows) rows.length
theorem isReducedM_iff (rows : List (List Int)) : isReducedM rows = true ↔ RedP rows := by
  have hst : Stg (ent rows) rows.length 0 rows := ⟨by omega, fun i j _ _ => by rw [bk_zero]; simp⟩
  unfold isReducedM
  rw [Bool.and_eq_true, decide_eq_true_iff]
  constructor
  · rintro ⟨⟨h1, h8, hsq, hsm⟩, hr⟩
    have hs : ∀ i, i < rows.length → ∀ j, j < rows.length → ent rows i j = ent rows j i := fun i hi j hj => (hsm i hi j hj).1
    have := (redM_iff h8 hs (fun i hi j hj => by have := (hsm i hi j hj).2; omega) rows.length 0 rows (by omega) (by omega) (fun t ht => by omega) hst).1 hr
    refine ⟨h1, h8, hsq, hs, fun k hk => ?_, this.2.2, fun t ht => ?_⟩
    · by_cases e : k + 1 = rows.length
      · rw [e]; exact this.2.1
      · exact (this.1 k (by omega) (by omega)).1.1
    · have h := this.1 t (by omega) ht
      exact ⟨h.1.2.2, h.2⟩
  · rintro ⟨h1, h8, hsq, hr⟩
    have hes := ent_small h1 h8 hr
    have hds := dk_small h1 h8 hr
    obtain ⟨hs, hp, hd, hl⟩ := hr
    refine ⟨⟨h1, h8, hsq, fun i hi j hj => ⟨hs i hi j hj, hes i hi j hj⟩⟩, ?_⟩
    refine (redM_iff h8 hs (fun i hi j hj => by have := hes i hi j hj; omega) rows.length 0 rows (by omega) (by omega) (fun t ht => by omega) hst).2 ⟨fun t _ ht => ?_, ?_, hd⟩
    · exact ⟨⟨hp t (by omega), hds t (by omega), (hl t ht).1⟩, (hl t ht).2⟩
    · have := hp (rows.length - 1) (by omega)
      rw [show rows.length - 1 + 1 = rows.length by omega] at this
      exact this

end Go.Proofs.YtennjcjjegbhgaaGreat

/-
  Plain: matrices as functions; the determinant as the reference computes it (the pivot is searched), and that it is the minor of the plain theory.
-/
namespace Go.Proofs.YtennjcjjegbhgaaGreat

/-- A row and a matrix of a function. -/
def rowF (m : Nat) (g : Nat → Int) : List Int := (List.range m).map g
def mat (n m : Nat) (f : Nat → Nat → Int) : List (List Int) := (List.range n).map fun i => rowF m (f i)
theorem rowF_len (m : Nat) (g : Nat → Int) : (rowF m g).length = m := by simp [rowF]
theorem mat_len (n m : Nat) (f : Nat → Nat → Int) : (mat n m f).length = n := by simp [mat]
theorem rowF_get {m j : Nat} (g : Nat → Int) (h : j < m) : (rowF m g)[j]? = some (g j) := by simp [rowF, h]
theorem mat_get {n i : Nat} (m : Nat) (f : Nat → Nat → Int) (h : i < n) : (mat n m f)[i]? = some (rowF m (f i)) := by simp [mat, h]
theorem rowF_congr {m : Nat} {g g' : Nat → Int} (h : ∀ j, j < m → g j = g' j) : rowF m g = rowF m g' := List.map_congr_left fun j hj => h j (List.mem_range.1 hj)
theorem mat_congr {n m : Nat} {f f' : Nat → Nat → Int} (h : ∀ i j, i < n → j < m → f i j = f' i j) : mat n m f = mat n m f' :=
  List.map_congr_left fun i hi => rowF_congr fun j hj => h i j (List.mem_range.1 hi) hj
theorem rowF_set {m j : Nat} (g : Nat → Int) (v : Int) : (rowF m g).set j v = rowF m (fun c => if c = j then v else g c) := by
  apply List.ext_getElem?
  intro c
  rw [List.getElem?_set]
  by_cases hc : c < m
  · rw [rowF_get _ hc, rowF_get _ hc, rowF_len]
    by_cases e : j = c
    · subst e; simp [hc]
    · simp [e, Ne.symm e]
  · rw [List.getElem?_eq_none (l := rowF m g) (by rw [rowF_len]; omega), List.getElem?_eq_none (l := rowF m _) (by rw [rowF_len]; omega), rowF_len]
    by_cases e : j = c
    · subst e; simp [hc]
    · simp [e]
theorem mat_set {n m i : Nat} (f : Nat → Nat → Int) (g : Nat → Int) : (mat n m f).set i (rowF m g) = mat n m (fun r => if r = i then g else f r) := by
  apply List.ext_getElem?
  intro c
  rw [List.getElem?_set]
  by_cases hc : c < n
  · rw [mat_get _ _ hc, mat_get _ _ hc, mat_len]
    by_cases e : i = c
    · subst e; simp [hc]
    · simp [e, Ne.symm e]
  · rw [List.getElem?_eq_none (l := mat n m f) (by rw [mat_len]; omega), List.getElem?_eq_none (l := mat n m _) (by rw [mat_len]; omega), mat_len]
    by_cases e : i = c
    · subst e; simp [hc]
    · simp [e]
theorem row_rowF (l : List Int) : l = rowF l.length fun j => l.getD j 0 := by
  apply List.ext_getElem?
  intro c
  by_cases hc : c < l.length
  · rw [rowF_get _ hc, List.getD_eq_getElem?_getD, List.getElem?_eq_getElem hc]; rfl
  · rw [List.getElem?_eq_none (by omega), List.getElem?_eq_none (by rw [rowF_len]; omega)]
theorem mat_ent {M : List (List Int)} {m : Nat} (h : ∀ r ∈ M, r.length = m) : M = mat M.length m (ent M) := by
  apply List.ext_getElem?
  intro c
  by_cases hc : c < M.length
  · rw [mat_get _ _ hc, List.getElem?_eq_getElem hc]
    have e := row_rowF M[c]
    rw [h _ (List.getElem_mem hc)] at e
    rw [e]
    congr 1
    refine rowF_congr fun j hj => ?_
    simp only [ent, List.getD_eq_getElem?_getD, List.getElem?_eq_getElem hc, Option.getD_some]
  · rw [List.getElem?_eq_none (by omega), List.getElem?_eq_none (by rw [mat_len]; omega)]
theorem ent_mat {n m i j : Nat} (f : Nat → Nat → Int) (hi : i < n) (hj : j < m) : ent (mat n m f) i j = f i j := by
  simp only [ent, List.getD_eq_getElem?_getD, mat_get _ _ hi, Option.getD_some, rowF_get _ hj]

/-- The first row from p on whose entry in column k is not 0 (n: there is none). -/
def piv (f : Nat → Nat → Int) (n k p : Nat) : Nat := if p < n then (if f p k = 0 then piv f n k (p + 1) else p) else n
termination_by n - p
def swp (p k : Nat) (f : Nat → Nat → Int) : Nat → Nat → Int := fun i => if i = p then f k else if i = k then f p else f i
def nxt (k : Nat) (last : Int) (f : Nat → Nat → Int) : Nat → Nat → Int := fun i j => if k < i ∧ k < j then (f k k * f i j - f i k * f k j) / last else f i j
def pvt (n k : Nat) (f : Nat → Nat → Int) : Nat → Nat → Int := swp (piv f n k k) k f
/-- The elimination from stage k on. -/
def detG (n k : Nat) (f : Nat → Nat → Int) (last : Int) (neg : Bool) : Int :=
  if k < n then (if piv f n k k = n then 0 else detG n (k + 1) (nxt k last (pvt n k f)) (pvt n k f k k) (neg != decide (k < piv f n k k)))
  else if neg then -last else last
termination_by n - k
def detF (n : Nat) (f : Nat → Nat → Int) : Int := detG n 0 f 1 false

theorem piv_lo {f : Nat → Nat → Int} {n k p : Nat} (h : p < n) (h0 : f p k = 0) : piv f n k p = piv f n k (p + 1) := by rw [piv, if_pos h, if_pos h0]
theorem piv_hi {f : Nat → Nat → Int} {n k p : Nat} (h : p < n) (h0 : f p k ≠ 0) : piv f n k p = p := by rw [piv, if_pos h, if_neg h0]
theorem piv_end {f : Nat → Nat → Int} {n k p : Nat} (h : ¬ p < n) : piv f n k p = n := by rw [piv, if_neg h]
theorem swp_self (k : Nat) (f : Nat → Nat → Int) : swp k k f = f := by
  funext i
  unfold swp
  by_cases h : i = k
  · subst h; simp
  · simp [h]

theorem detG_dk {f : Nat → Nat → Int} {n : Nat} (hd : ∀ t, t + 1 < n → dk f (t + 1) ≠ 0) : ∀ m k g, n - k = m → k ≤ n → (∀ i j, k ≤ i → i < n → k ≤ j → j < n → g i j = bk f k i j) → detG n k g (dk f k) false = dk f n
  | 0, k, g, hm, hk, _ => by
    have : k = n := by omega
    subst this
    rw [detG, if_neg (by omega)]; rfl
  | m + 1, k, g, hm, hk, hg => by
    have hkk : g k k = dk f (k + 1) := by rw [hg k k (by omega) (by omega) (by omega) (by omega), dk_succ]
    rw [detG, if_pos (show k < n by omega)]
    by_cases h0 : g k k = 0
    · have hn : k + 1 = n := by
        by_cases e : k + 1 < n
        · exact absurd (hkk ▸ h0) (hd k e)
        · omega
      rw [piv_lo (by omega) h0, piv_end (by omega), if_pos rfl, ← hn, ← hkk, h0]
    · have hp : piv g n k k = k := piv_hi (by omega) h0
      rw [hp, if_neg (by omega), pvt, hp, swp_self, hkk]
      have hne : dk f k ≠ 0 := by
        cases k with
        | zero => rw [dk_zero]; omega
        | succ k => exact hd k (by omega)
      rw [show (false != decide (k < k)) = false by simp]
      refine detG_dk hd m (k + 1) _ (by omega) (by omega) fun i j hi hin hj hjn => ?_
      have hs := sylv f k (fun t ht => hd t (by omega)) i j
      show (if k < i ∧ k < j then _ else _) = _
      rw [if_pos ⟨by omega, by omega⟩, hkk, hg i j (by omega) hin (by omega) hjn, hg i k (by omega) hin (by omega) (by omega), hg k j (by omega) (by omega) (by omega) hjn, ← hs, Int.mul_ediv_cancel_left _ hne]
theorem detF_dk {f : Nat → Nat → Int} {n : Nat} (hd : ∀ t, t + 1 < n → dk f (t + 1) ≠ 0) : detF n f = dk f n :=
  detG_dk hd n 0 f rfl (by omega) fun i j _ _ _ _ => (bk_zero f i j).symm

theorem om_congr {f g : Nat → Nat → Int} : ∀ {k : Nat}, (∀ i, i < k → f i = g i) → om f k = om g k
  | 0, _ => rfl
  | k + 1, h => by rw [om, om, h k (by omega), om_congr fun i hi => h i (by omega)]
theorem lap_congr {r s : Nat → Int} : ∀ (cs : List Nat) {f g : List Nat → Int}, (∀ c ∈ cs, r c = s c) → (∀ l, (∀ c ∈ l, c ∈ cs) → f l = g l) → lap r f cs = lap s g cs
  | [], _, _, _, _ => rfl
  | c :: cs, f, g, h, hf => by
    rw [lap, lap, h c List.mem_cons_self, hf cs (fun c hc => List.mem_cons_of_mem _ hc), lap_congr cs (fun c hc => h c (List.mem_cons_of_mem _ hc)) (fun l hl => hf (c :: l) (fun d hd => by
      rcases List.mem_cons.1 hd with rfl | hd
      · exact List.mem_cons_self
      · exact List.mem_cons_of_mem _ (hl d hd)))]
theorem om_cols {f g : Nat → Nat → Int} : ∀ {k : Nat} {cs : List Nat}, (∀ i, i < k → ∀ c ∈ cs, f i c = g i c) → om f k cs = om g k cs
  | 0, _, _ => rfl
  | k + 1, cs, h => by
    show lap (f k) (om f k) cs = lap (g k) (om g k) cs
    exact lap_congr cs (fun c hc => h k (by omega) c hc) (fun l hl => om_cols fun i hi c hc => h i (by omega) c (hl c hc))
/-- The minors depend on the entries that they contain. -/
theorem dk_congr {f g : Nat → Nat → Int} {k : Nat} (h : ∀ i j, i < k → j < k → f i j = g i j) : dk f k = dk g k := om_cols fun i hi c hc => h i c hi (csk_lt hc)
/-- Row i put at place j. -/
theorem dk_row {f g : Nat → Nat → Int} {i j : Nat} (h : ∀ r c, r < j → c ≤ j → g r c = f r c) (hi : ∀ c, c ≤ j → g j c = f i c) : dk g (j + 1) = bk f j i j := by
  rw [dk_succ, bk, bk]
  refine lap_congr _ (fun c hc => ?_) (fun l hl => om_cols fun r hr c hc => ?_)
  · rcases List.mem_cons.1 hc with rfl | hc
    · exact hi c (by omega)
    · exact hi c (by have := csk_lt hc; omega)
  · have := hl c hc
    rcases List.mem_cons.1 this with rfl | this
    · exact h r c hr (by omega)
    · exact h r c hr (by have := csk_lt this; omega)
end Go.Proofs.YtennjcjjegbhgaaGreat

/-
  Plain: the reference's conditions of a reduced form are those of the program.
-/
namespace Go.Proofs.YtennjcjjegbhgaaGreat

/-- The matrix whose determinant is lambda(i, j). -/
def lamF (f : Nat → Nat → Int) (i j : Nat) : Nat → Nat → Int := fun r c => if r < j then f r c else f i c
def lam (f : Nat → Nat → Int) (i j : Nat) : Int := detF (j + 1) (lamF f i j)
def dd (f : Nat → Nat → Int) (k : Nat) : Int := if k = 0 then 1 else detF k f
def SymF (f : Nat → Nat → Int) (n : Nat) : Prop := ∀ i, i < n → ∀ j, j < n → f i j = f j i
def PosF (f : Nat → Nat → Int) (n : Nat) : Prop := ∀ k, k < n → 0 < detF (k + 1) f
def SizF (f : Nat → Nat → Int) (i j : Nat) : Prop := 2 * ((lam f i j).natAbs : Int) ≤ dd f (j + 1)
def LovF (f : Nat → Nat → Int) (i : Nat) : Prop := 3 * (dd f i * dd f i) ≤ 4 * (dd f (i - 1) * dd f (i + 1) + lam f i (i - 1) * lam f i (i - 1))
def RefF (f : Nat → Nat → Int) (n : Nat) : Prop := ∀ i, i < n → (∀ j, j < i → SizF f i j) ∧ (0 < i → LovF f i)

theorem pos_dk {f : Nat → Nat → Int} {n : Nat} (h : PosF f n) : ∀ k, k < n → 0 < dk f (k + 1) ∧ detF (k + 1) f = dk f (k + 1) := by
  intro k
  induction k using Nat.strongRecOn with
  | ind k ih =>
    intro hk
    have e : detF (k + 1) f = dk f (k + 1) := detF_dk fun t ht => by have := (ih t (by omega) (by omega)).1; omega
    exact ⟨e ▸ h k hk, e⟩
theorem dk_posF {f : Nat → Nat → Int} {n : Nat} (h : ∀ k, k < n → 0 < dk f (k + 1)) : ∀ k, k < n → detF (k + 1) f = dk f (k + 1) := fun k hk =>
  detF_dk fun t ht => by have := h t (by omega); omega
theorem dd_dk {f : Nat → Nat → Int} {n : Nat} (h : ∀ k, k < n → 0 < dk f (k + 1)) {k : Nat} (hk : k ≤ n) : dd f k = dk f k := by
  cases k with
  | zero => rfl
  | succ k => exact dk_posF h k (by omega)
theorem lam_bk {f : Nat → Nat → Int} {n : Nat} (h : ∀ k, k < n → 0 < dk f (k + 1)) {i j : Nat} (hj : j < n) : lam f i j = bk f j i j := by
  have e : ∀ t, t + 1 < j + 1 → dk (lamF f i j) (t + 1) = dk f (t + 1) := fun t ht => dk_congr fun r c hr hc => by
    unfold lamF; rw [if_pos (by omega)]
  rw [lam, detF_dk (fun t ht => by rw [e t ht]; have := h t (by omega); omega)]
  refine dk_row (fun r c hr hc => ?_) (fun c hc => ?_)
  · unfold lamF; rw [if_pos hr]
  · unfold lamF; rw [if_neg (by omega)]

theorem ref_iff {f : Nat → Nat → Int} {n : Nat} (hn : 1 ≤ n) : (SymF f n ∧ PosF f n ∧ detF n f ≤ 10000 ∧ RefF f n) ↔ RedR f n := by
  constructor
  · rintro ⟨h1, h2, h3, h4⟩
    have hp : ∀ k, k < n → 0 < dk f (k + 1) := fun k hk => (pos_dk h2 k hk).1
    have hdn : detF n f = dk f n := by
      have := (pos_dk h2 (n - 1) (by omega)).2
      rwa [show n - 1 + 1 = n by omega] at this
    refine ⟨h1, hp, hdn ▸ h3, fun t ht => ⟨fun i hi hti => ?_, ?_⟩⟩
    · have := (h4 i hi).1 t hti
      rw [SizF, lam_bk hp (by omega), dd_dk hp (by omega)] at this
      omega
    · have := (h4 (t + 1) ht).2 (by omega)
      rw [LovF, lam_bk hp (by omega), dd_dk hp (by omega), dd_dk hp (by omega), dd_dk hp (by omega)] at this
      rw [Nat.add_sub_cancel] at this
      rw [Lov, Int.mul_assoc]
      exact this
  · rintro ⟨h1, hp, h3, h4⟩
    have hdn : detF n f = dk f n := by
      have := dk_posF hp (n - 1) (by omega)
      rwa [show n - 1 + 1 = n by omega] at this
    refine ⟨h1, fun k hk => ?_, hdn.symm ▸ h3, fun i hi => ⟨fun j hj => ?_, fun h0 => ?_⟩⟩
    · rw [dk_posF hp k hk]; exact hp k hk
    · have := (h4 j (by omega)).1 i hi hj
      rw [SizF, lam_bk hp (by omega), dd_dk hp (by omega)]
      omega
    · have := (h4 (i - 1) (by omega)).2
      rw [Lov, Int.mul_assoc, show i - 1 + 1 = i by omega] at this
      rw [LovF, lam_bk hp (by omega), dd_dk hp (by omega), dd_dk hp (by omega), dd_dk hp (by omega)]
      exact this
end Go.Proofs.YtennjcjjegbhgaaGreat

/-
  Own matrices of functions; quadformref03.FromInts and Of over the abstract machine.
-/
namespace Go.Proofs.YtennjcjjegbhgaaGreat
open Go.RowKit

/-- The own matrix of a function. -/
abbrev mxF (d n c : Nat) (f : Nat → Nat → Int) : List OObj := ⟨120, 1, spn d (List.replicate n c)⟩ :: (mat n c f).map rwO
theorem mat_lens (n c : Nat) (f : Nat → Nat → Int) : (mat n c f).map List.length = List.replicate n c := by
  apply List.ext_getElem?
  intro i
  rw [List.getElem?_map, List.getElem?_replicate]
  by_cases h : i < n
  · rw [mat_get _ _ h, if_pos h]; simp [rowF_len]
  · rw [List.getElem?_eq_none (by rw [mat_len]; omega), if_neg h]; rfl
theorem mxF_eq (d n c : Nat) (f : Nat → Nat → Int) : mxO d (mat n c f) = mxF d n c f := by rw [mxO, mat_lens]
theorem mat_rep (n c : Nat) : List.replicate n (List.replicate c (0 : Int)) = mat n c fun _ _ => 0 := by
  apply List.ext_getElem?
  intro i
  rw [List.getElem?_replicate]
  by_cases h : i < n
  · rw [mat_get _ _ h, if_pos h]
    congr 1
    apply List.ext_getElem?
    intro j
    rw [List.getElem?_replicate]
    by_cases h : j < c
    · rw [rowF_get _ h, if_pos h]
    · rw [List.getElem?_eq_none (by rw [rowF_len]; omega), if_neg h]
  · rw [List.getElem?_eq_none (by rw [mat_len]; omega), if_neg h]
theorem spn_get {n i : Nat} (d c : Nat) (h : i < n) : (spn d (List.replicate n c))[i]? = some [.sl d (i + 1) 0 c] := by
  simp [spn, h]
theorem mxr_get {n i : Nat} (c : Nat) (f : Nat → Nat → Int) (h : i < n) : ((mat n c f).map rwO)[i]? = some ⟨51, 2, lc fZ (rowF c (f i))⟩ := by
  rw [List.getElem?_map, mat_get _ _ h]; rfl
def upd (f : Nat → Nat → Int) (i j : Nat) (v : Int) : Nat → Nat → Int := fun a => if a = i then (fun b => if b = j then v else f i b) else f a
theorem mxr_set {n i j : Nat} (c : Nat) (f : Nat → Nat → Int) (v : Int) : ((mat n c f).map rwO).set i ⟨51, 2, (lc fZ (rowF c (f i))).set j [.p (.raw (.bool (decide (v < 0)))), .p (.sl (ls fU (limbs v.natAbs)))]⟩ = (mat n c (upd f i j v)).map rwO := by
  have e : (⟨51, 2, (lc fZ (rowF c (f i))).set j [.p (.raw (.bool (decide (v < 0)))), .p (.sl (ls fU (limbs v.natAbs)))]⟩ : OObj) = rwO (rowF c fun b => if b = j then v else f i b) := by
    rw [← rowF_set, rwO, ← lc_set]; rfl
  rw [e, ← List.map_set, mat_set]; rfl
theorem mxr_congr {n c : Nat} {f g : Nat → Nat → Int} (h : ∀ i j, i < n → j < c → f i j = g i j) : (mat n c f).map rwO = (mat n c g).map rwO := by rw [mat_congr h]

theorem mxF_ren (d e n c : Nat) (f : Nat → Nat → Int) : (mxF d n c f).map (renO e) = mxF e n c f := by rw [← mxF_eq, ← mxF_eq, mxO_ren]
theorem fzOk_mx {H : OH} {d n c : Nat} {f : Nat → Nat → Int} (h : H d = mxF d n c f) : fzOk H d := fun r o ho e he x hx => by
  rw [h] at ho
  cases r with
  | succ r =>
    rw [List.getElem?_cons_succ, List.getElem?_map] at ho
    obtain ⟨l, hl, rfl⟩ := Option.map_eq_some_iff.1 ho
    exact .inl (pureRow_lc _ _ l e he x hx)
  | zero =>
    simp at ho
    subst ho
    simp only at he
    obtain ⟨k, hk⟩ := List.mem_iff_getElem?.1 he
    have hkn : k < n := by
      have := (List.getElem?_eq_some_iff.1 hk).1
      rwa [spn_len, List.length_replicate] at this
    rw [spn_get d c hkn] at hk
    injection hk with hk
    subst hk
    simp at hx
    subst hx
    refine .inr ⟨k + 1, 0, c, rwO (rowF c (f k)), rfl, ?_, pureRow_lc _ _ _⟩
    rw [h, List.getElem?_cons_succ, List.getElem?_map, mat_get _ _ hkn]; rfl
theorem fzM {H : OH} {d n c : Nat} {f : Nat → Nat → Int} (h : H d = mxF d n c f) : fzTV H d (.one (.sl d 0 0 n)) = slM (mat n c f) := by
  have e : ((spn d (List.replicate n c)).map (List.map (cellF H d))) = ls (fR fZ) (mat n c f) := by
    apply List.ext_getElem?
    intro i
    rw [List.getElem?_map, ls_get]
    by_cases hi : i < n
    · rw [spn_get d c hi, mat_get _ _ hi]
      simp only [Option.map_some, List.map_cons, List.map_nil, cellF, h, List.getElem?_cons_succ, mxr_get _ _ hi, fR, lc_take, lc_drop, lc_pure]
      rw [List.drop_zero, List.take_of_length_le (by rw [rowF_len]; omega)]
    · rw [List.getElem?_eq_none (by rw [spn_len, List.length_replicate]; omega), List.getElem?_eq_none (by rw [mat_len]; omega)]; rfl
  simp only [fzTV, fzAV, if_true, h, List.getElem?_cons_zero]
  rw [List.drop_zero, List.take_of_length_le (by rw [spn_len, List.length_replicate]; omega), e]

abbrev slI (M : List (List Int)) : TV := .one (.p (.sl (ls (fR fI) M)))
def fiN : TV := .tup [(false, [.p (.raw (.slice none 0 0))]), (false, [.p (.raw (.bool false))])]
def fiY (M : List (List Int)) : TV := .tup [(false, [.p (.sl (ls (fR fZ) M))]), (false, [.p (.raw (.bool true))])]

structure FiG (n : Nat) where
  i : Nat
  hi : i ≤ n
/-- f up to the place (i, j), behind it 0. -/
def part (f : Nat → Nat → Int) (i j : Nat) : Nat → Nat → Int := fun a b => if a < i ∨ (a = i ∧ b < j) then f a b else 0
theorem part_step (f : Nat → Nat → Int) (i j a b : Nat) : upd (part f i j) i j (f i j) a b = part f i (j + 1) a b := by
  unfold upd part
  by_cases h1 : a = i
  · subst h1
    by_cases h2 : b = j
    · subst h2; simp
    · have : b < j + 1 ↔ b < j := by omega
      simp [h2, this]
  · simp [h1]
theorem part_row {c : Nat} (f : Nat → Nat → Int) (i a b : Nat) (hb : b < c) : part f i c a b = part f (i + 1) 0 a b := by
  unfold part
  by_cases h1 : a < i
  · rw [if_pos (.inl h1), if_pos (.inl (by omega))]
  · by_cases h2 : a = i
    · rw [if_pos (.inr ⟨h2, hb⟩), if_pos (.inl (by omega))]
    · rw [if_neg (by omega), if_neg (by omega)]
theorem part_end {n : Nat} (f : Nat → Nat → Int) (a b : Nat) (ha : a < n) : part f n 0 a b = f a b := by
  unfold part; rw [if_pos (.inl ha)]
theorem part_zero (f : Nat → Nat → Int) : part f 0 0 = fun _ _ => 0 := by
  funext a b; unfold part; rw [if_neg (by omega)]


set_option maxRecDepth 100000 in
set_option maxHeartbeats 4000000 in
theorem FromInts_C (n c : Nat) (f : Nat → Nat → Int) (hn1 : 1 ≤ n) (hn : n ≤ 16) (hc1 : 1 ≤ c) (hc : c ≤ 16) (hf : ∀ i j, i < n → j < c → -9223372036854775808 ≤ f i j ∧ f i j ≤ 9223372036854775807) :
    CallC Tryz.prog 65 [slI (mat n c f)] ⟨[], fiY (mat n c f)⟩ := by
  have hml := mat_len n c f
  have h0 := mat_get (n := n) c f (i := 0) (by omega)
  have hZ := Zero_C n c hn hc
  rw [mat_rep, mxF_eq] at hZ
  refine callC_of Tryz.func65 rfl (by kernel_rfl) ?_; rw [Tryz.ntmps65]
  ((first | refine WpA_sreg [] [] (by simp) fun K hK => ?_ | refine WpA_seq (WpA_sreg [] [] (by simp) fun K hK => ?_) | refine WpA_seq (WpA_seq (WpA_sreg [] [] (by simp) fun K hK => ?_))); simp (disch := omega) only [prepL, prep1, Nat.zero_add, slI, List.length_cons, List.length_nil, List.replicate, List.cons_append, List.nil_append, runS_cons, opS_assign, AS.ev, ofConst, Value.oneCell', if_true, Option.map_some, AS.put, List.set_cons_succ, List.set_cons_zero, runS_nil]; (with_reducible refine hK _ ?_); clear hK K)
  ((first | refine WpA_sreg [] [] (by simp) fun K hK => ?_ | refine WpA_seq (WpA_sreg [] [] (by simp) fun K hK => ?_) | refine WpA_seq (WpA_seq (WpA_sreg [] [] (by simp) fun K hK => ?_))); simp (disch := omega) only [prepL, prep1, Nat.zero_add, Nat.reduceAdd, List.getElem?_toArray, List.getElem?_cons_succ, List.getElem?_cons_zero, Option.bind_some, runS_cons, opS_move, AS.ev, Option.map_some, AS.put, List.set_cons_succ, List.set_cons_zero, opS_len, effR, ty_slice22, ls_len, hml, opS_bin, effM, ofConst, Value.oneCell', if_true, evBin, decF, stS_guard, ifT, opS_pick, runS_nil]; (with_reducible refine hK _ ?_); clear hK K)
  refine WpA_cond rfl (fun h => by simp at h <;> omega) (fun _ => WpA_skip ?_)
  show WpA _ _ _ _
  ((first | refine WpA_sreg [] [] (by simp) fun K hK => ?_ | refine WpA_seq (WpA_sreg [] [] (by simp) fun K hK => ?_) | refine WpA_seq (WpA_seq (WpA_sreg [] [] (by simp) fun K hK => ?_))); simp (disch := omega) only [prepL, prep1, Nat.zero_add, Nat.reduceAdd, runS_cons, opS_move, AS.ev, List.getElem?_cons_zero, Option.map_some, AS.put, List.set_cons_succ, List.set_cons_zero, opS_len, effR, ty_slice22, List.getElem?_cons_succ, ls_len, hml, ofConst, Value.oneCell', if_true, runS_nil]; (with_reducible refine hK _ ?_); clear hK K)
  refine WpA_forb (G := FiG n) (fun g => ⟨[slI (mat n c f), .one .junk, .raw (.slice none 0 0), .raw (.bool false), .one .junk, .one .junk, .one .junk, .one .junk, .one .junk, .one .junk, .one .junk, .one .junk, .one .junk, .one .junk, .one .junk, .one .junk, .one .junk, slI (mat n c f), .raw (.int .i64 (n : Int)), .raw (.int .i64 (g.i : Int)), .one .junk, .one .junk, .one .junk, .one .junk, .one .junk, .one .junk, .one .junk, .one .junk, .one .junk, .one .junk, .one .junk, .one .junk, .one .junk, .one .junk, .one .junk, .one .junk, .one .junk, .one .junk, .one .junk, .one .junk, .one .junk, .one .junk, .one .junk, .one .junk, .one .junk, .one .junk, .one .junk, .one .junk, .one .junk, .one .junk, .one .junk, .one .junk, .one .junk, .one .junk, .one .junk, .one .junk, .one .junk, .one .junk, .one .junk, .one .junk, .one .junk, .one .junk, .one .junk, .one .junk, .one .junk, .one .junk, .one .junk, .one .junk, .one .junk, .one .junk, .one .junk, .one .junk, .one .junk, .one .junk, .one .junk, .one .junk, .one .junk, .one .junk], Hm []⟩) (fun g => n - g.i) ⟨0, by omega⟩ ?_ ?_
  · refine Weak_sub trivial ?_
    simp [wkL, okTV, okAV]
  · rintro ⟨i, hi⟩
    simp only
    by_cases hm : i < n
    · have hr := mat_get c f hm
      ((first | refine WpA_sreg [] [] (by simp) fun K hK => ?_ | refine WpA_seq (WpA_sreg [] [] (by simp) fun K hK => ?_) | refine WpA_seq (WpA_seq (WpA_sreg [] [] (by simp) fun K hK => ?_))); simp (disch := omega) only [prepL, prep1, slI, Hm, runS_cons, opS_bin, effM, AS.ev, List.getElem?_cons_succ, List.getElem?_cons_zero, evBin, decT, if_true, Option.map_some, AS.put, List.set_cons_succ, List.set_cons_zero, runS_nil]; (with_reducible refine hK _ ?_); clear hK K)
      refine WpA_seq (WpA_cond rfl (fun _ => WpA_skip ?_) (fun h => by simp at h <;> omega))
      refine WpA_seq (WpA_block ?_)
      ((first | refine WpA_sreg [] [] (by simp) fun K hK => ?_ | refine WpA_seq (WpA_sreg [] [] (by simp) fun K hK => ?_) | refine WpA_seq (WpA_seq (WpA_sreg [] [] (by simp) fun K hK => ?_))); simp (disch := omega) only [prepL, prep1, Nat.zero_add, Nat.reduceAdd, runS_cons, opS_indexAddr, effR, AS.ev, List.getElem?_cons_succ, List.getElem?_cons_zero, natOf_pos, Int.toNat_natCast, ty_slice22, ls_get, hr, Option.map_some, fR, ty_sz23, List.length_cons, List.length_nil, if_true, AS.put, List.set_cons_succ, List.set_cons_zero, opS_load, packT, ty_agg23, List.map_cons, List.map_nil, opS_assign, runS_nil]; (with_reducible refine hK _ ?_); clear hK K)
      ((first | refine WpA_sreg [] [] (by simp) fun K hK => ?_ | refine WpA_seq (WpA_sreg [] [] (by simp) fun K hK => ?_) | refine WpA_seq (WpA_seq (WpA_sreg [] [] (by simp) fun K hK => ?_))); simp (disch := omega) only [prepL, prep1, Nat.zero_add, Nat.reduceAdd, List.getElem?_toArray, List.getElem?_cons_succ, List.getElem?_cons_zero, Option.bind_some, runS_cons, opS_move, AS.ev, Option.map_some, AS.put, List.set_cons_succ, List.set_cons_zero, opS_len, effR, ty_slice23, ls_len, rowF_len, opS_bin, effM, ofConst, Value.oneCell', if_true, evBin, decF, stS_guard, ifT, opS_pick, opS_indexAddr, natOf_pos, Int.reduceToNat, ty_slice22, ls_get, h0, fR, ty_sz23, List.length_cons, List.length_nil, opS_load, packT, ty_agg23, List.map_cons, List.map_nil, decT, Bool.not_true, runS_nil]; (with_reducible refine hK _ ?_); clear hK K)
      refine WpA_cond rfl (fun h => by simp at h <;> omega) (fun _ => WpA_skip ?_)
      show WpA _ _ _ _
      ((refine WpA_lreg [] [] (by simp) fun K hK => ?_); simp (disch := omega) only [prepL, prep1, Nat.zero_add, runS_cons, opS_bin, effM, AS.ev, List.getElem?_cons_succ, List.getElem?_cons_zero, ofConst, Value.oneCell', if_true, evBin, wrapI, Option.map_some, AS.put, List.set_cons_succ, List.set_cons_zero, opS_move, runS_nil]; (with_reducible refine hK _ ?_); clear hK K)
      refine ⟨⟨i + 1, by omega⟩, by simp only; omega, Weak_sub trivial ?_⟩
      simp [wkL, okTV, okAV]
    · ((first | refine WpA_sreg [] [] (by simp) fun K hK => ?_ | refine WpA_seq (WpA_sreg [] [] (by simp) fun K hK => ?_) | refine WpA_seq (WpA_seq (WpA_sreg [] [] (by simp) fun K hK => ?_))); simp (disch := omega) only [prepL, prep1, slI, Hm, runS_cons, opS_bin, effM, AS.ev, List.getElem?_cons_succ, List.getElem?_cons_zero, evBin, decF, if_true, Option.map_some, AS.put, List.set_cons_succ, List.set_cons_zero, runS_nil]; (with_reducible refine hK _ ?_); clear hK K)
      refine WpA_seq (WpA_cond rfl (fun h => by simp at h <;> omega) (fun _ => WpA_exit ?_))
      show WpA _ _ _ _
      ((first | refine WpA_sreg [⟨6, _, _, _, hZ⟩] [] (by simp) fun K hK => ?_ | refine WpA_seq (WpA_sreg [⟨6, _, _, _, hZ⟩] [] (by simp) fun K hK => ?_) | refine WpA_seq (WpA_seq (WpA_sreg [⟨6, _, _, _, hZ⟩] [] (by simp) fun K hK => ?_))); simp (disch := omega) only [prepL, prep1, Nat.zero_add, Nat.reduceAdd, runS_cons, opS_move, AS.ev, List.getElem?_cons_zero, Option.map_some, AS.put, List.set_cons_succ, List.set_cons_zero, opS_len, effR, ty_slice22, List.getElem?_cons_succ, ls_len, hml, opS_indexAddr, ofConst, Value.oneCell', if_true, natOf_pos, Int.reduceToNat, ls_get, h0, fR, ty_sz23, List.length_cons, List.length_nil, opS_load, packT, ty_agg23, List.map_cons, List.map_nil, ty_slice23, rowF_len, opS_call, newS, effA, List.find?_cons, beq_self_eq_true, evAll, norm, CallRes.plain, List.isEmpty_cons, rawTV, rawAV, Bool.and_self, List.all_cons, normOk, List.all_nil, Bool.not_false, noRefTV, noRefAV, Bool.or_false, and_self, renTV, renAV, renO, opS_assign, runS_nil]; (with_reducible refine hK _ ?_); clear hK K)
      ((first | refine WpA_sreg [] [] (by simp) fun K hK => ?_ | refine WpA_seq (WpA_sreg [] [] (by simp) fun K hK => ?_) | refine WpA_seq (WpA_seq (WpA_sreg [] [] (by simp) fun K hK => ?_))); simp (disch := omega) only [prepL, prep1, Nat.zero_add, Nat.reduceAdd, runS_cons, opS_move, AS.ev, List.getElem?_cons_zero, Option.map_some, AS.put, List.set_cons_succ, List.set_cons_zero, opS_len, effR, ty_slice22, List.getElem?_cons_succ, ls_len, hml, ofConst, Value.oneCell', if_true, runS_nil]; (with_reducible refine hK _ ?_); clear hK K)
      refine WpA_forb (G := FiG n) (fun g => ⟨[slI (mat n c f), .one .junk, .raw (.slice none 0 0), .raw (.bool false), .one .junk, .one .junk, .one (.sl 47 0 0 n), .one .junk, .one .junk, .one .junk, .one .junk, .one .junk, .one .junk, .one .junk, .one .junk, .one .junk, .one .junk, .one .junk, .one .junk, .one .junk, .one .junk, .one .junk, .one .junk, .one .junk, .one .junk, .one .junk, .one .junk, .one .junk, .one .junk, .one .junk, .one .junk, .one .junk, .one .junk, .one .junk, .one .junk, .one .junk, .one .junk, .one .junk, .one .junk, .one .junk, .one .junk, .one .junk, .one .junk, .one .junk, .one .junk, .one .junk, .one .junk, .one .junk, .one .junk, .raw (.int .i64 (n : Int)), .raw (.int .i64 (g.i : Int)), .one .junk, .one .junk, .one .junk, .one .junk, .one .junk, .one .junk, .one .junk, .one .junk, .one .junk, .one .junk, .one .junk, .one .junk, .one .junk, .one .junk, .one .junk, .one .junk, .one .junk, .one .junk, .one .junk, .one .junk, .one .junk, .one .junk, .one .junk, .one .junk, .one .junk, .one .junk, .one .junk], Hm [(47, mxF 47 n c (part f g.i 0))]⟩) (fun g => n - g.i) ⟨0, by omega⟩ ?_ ?_
      · refine Weak_sub ⟨?_, trivial⟩ ?_
        · rw [part_zero]; exact mxF_ren 0 47 n c _
        · simp [wkL, okTV, okAV]
      · rintro ⟨i, hi⟩
        simp only
        by_cases hm2 : i < n
        · have hr := mat_get c f hm2
          ((first | refine WpA_sreg [] [] (by simp) fun K hK => ?_ | refine WpA_seq (WpA_sreg [] [] (by simp) fun K hK => ?_) | refine WpA_seq (WpA_seq (WpA_sreg [] [] (by simp) fun K hK => ?_))); simp (disch := omega) only [prepL, prep1, slI, Hm, runS_cons, opS_bin, effM, AS.ev, List.getElem?_cons_succ, List.getElem?_cons_zero, evBin, decT, if_true, Option.map_some, AS.put, List.set_cons_succ, List.set_cons_zero, runS_nil]; (with_reducible refine hK _ ?_); clear hK K)
          refine WpA_seq (WpA_cond rfl (fun _ => WpA_skip ?_) (fun h => by simp at h <;> omega))
          refine WpA_seq (WpA_block ?_)
          ((first | refine WpA_sreg [] [] (by simp) fun K hK => ?_ | refine WpA_seq (WpA_sreg [] [] (by simp) fun K hK => ?_) | refine WpA_seq (WpA_seq (WpA_sreg [] [] (by simp) fun K hK => ?_))); simp (disch := omega) only [prepL, prep1, Nat.zero_add, runS_cons, opS_move, AS.ev, List.getElem?_cons_succ, List.getElem?_cons_zero, Option.map_some, AS.put, List.set_cons_succ, List.set_cons_zero, opS_assign, runS_nil]; (with_reducible refine hK _ ?_); clear hK K)
          ((first | refine WpA_sreg [] [] (by simp) fun K hK => ?_ | refine WpA_seq (WpA_sreg [] [] (by simp) fun K hK => ?_) | refine WpA_seq (WpA_seq (WpA_sreg [] [] (by simp) fun K hK => ?_))); simp (disch := omega) only [prepL, prep1, Nat.zero_add, Nat.reduceAdd, runS_cons, opS_move, AS.ev, List.getElem?_cons_zero, Option.map_some, AS.put, List.set_cons_succ, List.set_cons_zero, List.getElem?_cons_succ, opS_indexAddr, effR, natOf_pos, Int.toNat_natCast, ty_slice22, ls_get, hr, fR, ty_sz23, List.length_cons, List.length_nil, if_true, opS_load, packT, ty_agg23, List.map_cons, List.map_nil, opS_len, ty_slice23, ls_len, rowF_len, ofConst, Value.oneCell', runS_nil]; (with_reducible refine hK _ ?_); clear hK K)
          refine WpA_forb (G := FiG c) (fun g => ⟨[slI (mat n c f), .one .junk, .raw (.slice none 0 0), .raw (.bool false), .one .junk, .one .junk, .one (.sl 47 0 0 n), .raw (.int .i64 (i : Int)), .one .junk, .one .junk, .one .junk, .one .junk, .one .junk, .one .junk, .one .junk, .one .junk, .one .junk, .one .junk, .one .junk, .one .junk, .one .junk, .one .junk, .one .junk, .one .junk, .one .junk, .one .junk, .one .junk, .one .junk, .one .junk, .one .junk, .one .junk, .one .junk, .one .junk, .one .junk, .one .junk, .one .junk, .one .junk, .one .junk, .one .junk, .one .junk, .one .junk, .one .junk, .one .junk, .one .junk, .one .junk, .one .junk, .one .junk, .one .junk, .one .junk, .raw (.int .i64 (n : Int)), .raw (.int .i64 (i : Int)), .one .junk, .one .junk, .one .junk, .one .junk, .one .junk, .one .junk, .raw (.int .i64 (c : Int)), .raw (.int .i64 (g.i : Int)), .one .junk, .one .junk, .one .junk, .one .junk, .one .junk, .one .junk, .one .junk, .one .junk, .one .junk, .one .junk, .one .junk, .one .junk, .one .junk, .one .junk, .one .junk, .one .junk, .one .junk, .one .junk, .one .junk], Hm [(47, mxF 47 n c (part f i g.i))]⟩) (fun g => c - g.i) ⟨0, by omega⟩ ?_ ?_
          · refine Weak_sub ⟨rfl, trivial⟩ ?_
            simp [wkL, okTV, okAV]
          · rintro ⟨j, hj⟩
            simp only
            by_cases hm3 : j < c
            · have hjr := rowF_get (f i) hm3
              have hS := small_C (f i j) (hf i j hm2 hm3).1 (hf i j hm2 hm3).2
              have g1 := spn_get (n := n) (i := i) 47 c hm2
              have g2 := mxr_get c (part f i j) hm2
              have g3 := rowF_get (part f i j i) hm3
              ((first | refine WpA_sreg [] [] (by simp) fun K hK => ?_ | refine WpA_seq (WpA_sreg [] [] (by simp) fun K hK => ?_) | refine WpA_seq (WpA_seq (WpA_sreg [] [] (by simp) fun K hK => ?_))); simp (disch := omega) only [prepL, prep1, slI, Hm, runS_cons, opS_bin, effM, AS.ev, List.getElem?_cons_succ, List.getElem?_cons_zero, evBin, decT, if_true, Option.map_some, AS.put, List.set_cons_succ, List.set_cons_zero, runS_nil]; (with_reducible refine hK _ ?_); clear hK K)
              refine WpA_seq (WpA_cond rfl (fun _ => WpA_skip ?_) (fun h => by simp at h <;> omega))
              refine WpA_seq (WpA_block ?_)
              ((first | refine WpA_sreg [] [] (by simp) fun K hK => ?_ | refine WpA_seq (WpA_sreg [] [] (by simp) fun K hK => ?_) | refine WpA_seq (WpA_seq (WpA_sreg [] [] (by simp) fun K hK => ?_))); simp (disch := omega) only [prepL, prep1, Nat.zero_add, runS_cons, opS_move, AS.ev, List.getElem?_cons_succ, List.getElem?_cons_zero, Option.map_some, AS.put, List.set_cons_succ, List.set_cons_zero, opS_assign, runS_nil]; (with_reducible refine hK _ ?_); clear hK K)
              ((refine WpA_ldraw mixedA [⟨12, _, _, _, hS⟩] [] (by kernel_rfl) (by simp) fun K hK => ?_); simp (disch := omega) only [tZ, prepL, prep1, Nat.zero_add, Nat.reduceAdd, runS_cons, opS_move, AS.ev, List.getElem?_cons_succ, List.getElem?_cons_zero, Option.map_some, AS.put, List.set_cons_succ, List.set_cons_zero, opS_indexAddr, effR, natOf_pos, Int.toNat_natCast, ty_slice62, if_true, ty_sz120, true_and, ifT, opS_load, g1, packT, ty_agg120, List.drop_zero, ty_slice22, ls_get, hr, fR, ty_sz23, List.length_cons, List.length_nil, ty_agg23, List.map_cons, List.map_nil, ty_slice23, hjr, fI, ty_sz2, ty_agg2, opS_call, newS, effA, List.find?_cons, beq_self_eq_true, evAll, norm, CallRes.plain, List.isEmpty_nil, rawTV, List.all_cons, rawAV, List.all_nil, Bool.and_true, Bool.and_false, normOk, Bool.and_self, Bool.not_true, noRefTV, noRefAV, Bool.or_true, and_self, renTV, renAV, ty_slice120, g2, ty_sz51, opS_store, wrS, effD, lc_get, fZ, g3, cellsOf, Nat.le_refl, isPure, putCells, List.take_zero, List.nil_append, List.drop_succ_cons, List.append_nil, mxr_set, killTV, killAV, Bool.false_eq_true, if_false, runS_nil]; (with_reducible refine hK _ ?_); clear hK K)
              show WpA _ _ _ _
              ((refine WpA_lreg [] [] (by simp) fun K hK => ?_); simp (disch := omega) only [prepL, prep1, Nat.zero_add, runS_cons, opS_bin, effM, AS.ev, List.getElem?_cons_succ, List.getElem?_cons_zero, ofConst, Value.oneCell', if_true, evBin, wrapI, Option.map_some, AS.put, List.set_cons_succ, List.set_cons_zero, opS_move, runS_nil]; (with_reducible refine hK _ ?_); clear hK K)
              refine ⟨⟨j + 1, by omega⟩, by simp only; omega, Weak_sub ⟨?_, trivial⟩ ?_⟩
              · show _ :: _ = _ :: _
                rw [mxr_congr fun a b _ _ => part_step f i j a b]
              · simp [wkL, okTV, okAV]
            · have hjc : j = c := by omega
              subst hjc
              ((first | refine WpA_sreg [] [] (by simp) fun K hK => ?_ | refine WpA_seq (WpA_sreg [] [] (by simp) fun K hK => ?_) | refine WpA_seq (WpA_seq (WpA_sreg [] [] (by simp) fun K hK => ?_))); simp (disch := omega) only [prepL, prep1, slI, Hm, runS_cons, opS_bin, effM, AS.ev, List.getElem?_cons_succ, List.getElem?_cons_zero, evBin, decF, if_true, Option.map_some, AS.put, List.set_cons_succ, List.set_cons_zero, runS_nil]; (with_reducible refine hK _ ?_); clear hK K)
              refine WpA_seq (WpA_cond rfl (fun h => by simp at h <;> omega) (fun _ => WpA_exit ?_))
              show WpA _ _ _ _
              ((refine WpA_lreg [] [] (by simp) fun K hK => ?_); simp (disch := omega) only [prepL, prep1, Nat.zero_add, runS_cons, opS_bin, effM, AS.ev, List.getElem?_cons_succ, List.getElem?_cons_zero, ofConst, Value.oneCell', if_true, evBin, wrapI, Option.map_some, AS.put, List.set_cons_succ, List.set_cons_zero, opS_move, runS_nil]; (with_reducible refine hK _ ?_); clear hK K)
              refine ⟨⟨i + 1, by omega⟩, by simp only; omega, Weak_sub ⟨?_, trivial⟩ ?_⟩
              · show _ :: _ = _ :: _
                rw [mxr_congr fun a b _ hb => part_row f i a b hb]
              · simp [wkL, okTV, okAV]
        · have hin : i = n := by omega
          subst hin
          ((first | refine WpA_sreg [] [] (by simp) fun K hK => ?_ | refine WpA_seq (WpA_sreg [] [] (by simp) fun K hK => ?_) | refine WpA_seq (WpA_seq (WpA_sreg [] [] (by simp) fun K hK => ?_))); simp (disch := omega) only [prepL, prep1, slI, Hm, runS_cons, opS_bin, effM, AS.ev, List.getElem?_cons_succ, List.getElem?_cons_zero, evBin, decF, if_true, Option.map_some, AS.put, List.set_cons_succ, List.set_cons_zero, runS_nil]; (with_reducible refine hK _ ?_); clear hK K)
          refine WpA_seq (WpA_cond rfl (fun h => by simp at h <;> omega) (fun _ => WpA_exit ?_))
          show WpA _ _ _ _
          have e : mxF 47 i c (part f i 0) = mxF 47 i c f := by
            show _ :: _ = _ :: _
            rw [mxr_congr fun a b ha _ => part_end f a b ha]
          rw [e]
          refine WpA.weak ((Weak_fz 47 (fzOk_mx rfl)).trans (Weak_sub (tm := [.one .junk, .one .junk, .one .junk, .one .junk, .one .junk, .one .junk, slM (mat i c f), .one .junk, .one .junk, .one .junk, .one .junk, .one .junk, .one .junk, .one .junk, .one .junk, .one .junk, .one .junk, .one .junk, .one .junk, .one .junk, .one .junk, .one .junk, .one .junk, .one .junk, .one .junk, .one .junk, .one .junk, .one .junk, .one .junk, .one .junk, .one .junk, .one .junk, .one .junk, .one .junk, .one .junk, .one .junk, .one .junk, .one .junk, .one .junk, .one .junk, .one .junk, .one .junk, .one .junk, .one .junk, .one .junk, .one .junk, .one .junk, .one .junk, .one .junk, .one .junk, .one .junk, .one .junk, .one .junk, .one .junk, .one .junk, .one .junk, .one .junk, .one .junk, .one .junk, .one .junk, .one .junk, .one .junk, .one .junk, .one .junk, .one .junk, .one .junk, .one .junk, .one .junk, .one .junk, .one .junk, .one .junk, .one .junk, .one .junk, .one .junk, .one .junk, .one .junk, .one .junk, .one .junk]) (l := []) trivial (by simp [wkL, okTV, okAV]; exact (fzM (H := Hm [(47, mxF 47 i c f)]) (d := 47) (n := i) (c := c) (f := f) rfl).symm))) ?_
          ((first | refine WpA_sreg [] [] (by simp) fun K hK => ?_ | refine WpA_seq (WpA_sreg [] [] (by simp) fun K hK => ?_) | refine WpA_seq (WpA_seq (WpA_sreg [] [] (by simp) fun K hK => ?_))); simp (disch := omega) only [prepL, prep1, Nat.zero_add, Nat.reduceAdd, slM, Hm, runS_cons, opS_move, AS.ev, List.getElem?_cons_succ, List.getElem?_cons_zero, Option.map_some, AS.put, List.set_cons_succ, List.set_cons_zero, opS_assign, ofConst, Value.oneCell', if_true, runS_nil]; (with_reducible refine hK _ ?_); clear hK K)
          (refine WpA_ret ⟨.inr rfl, ret_now rfl ?_ rfl⟩; simp (disch := omega) only [resA, Tryz.results65, resL, resOne, List.getElem?_cons_succ, List.getElem?_cons_zero, Option.bind_some, tvPair, Option.map_some, fiY])

structure FiN (M : List (List Int)) where
  i : Nat
  hi : i ≤ M.length
  ok : ∀ r ∈ M.take i, rOk (M.headD []).length r

set_option maxRecDepth 100000 in
set_option maxHeartbeats 4000000 in
theorem FromInts_no (M : List (List Int)) (hM : ¬ ShP M) : CallC Tryz.prog 65 [slI M] ⟨[], fiN⟩ := by
  by_cases h1 : M.length < 1
  · refine callC_of Tryz.func65 rfl (by kernel_rfl) ?_; rw [Tryz.ntmps65]
    ((first | refine WpA_sreg [] [] (by simp) fun K hK => ?_ | refine WpA_seq (WpA_sreg [] [] (by simp) fun K hK => ?_) | refine WpA_seq (WpA_seq (WpA_sreg [] [] (by simp) fun K hK => ?_))); simp (disch := omega) only [prepL, prep1, Nat.zero_add, slI, List.length_cons, List.length_nil, List.replicate, List.cons_append, List.nil_append, runS_cons, opS_assign, AS.ev, ofConst, Value.oneCell', if_true, Option.map_some, AS.put, List.set_cons_succ, List.set_cons_zero, runS_nil]; (with_reducible refine hK _ ?_); clear hK K)
    ((first | refine WpA_sreg [] [] (by simp) fun K hK => ?_ | refine WpA_seq (WpA_sreg [] [] (by simp) fun K hK => ?_) | refine WpA_seq (WpA_seq (WpA_sreg [] [] (by simp) fun K hK => ?_))); simp (disch := omega) only [prepL, prep1, Nat.zero_add, Nat.reduceAdd, List.getElem?_toArray, List.getElem?_cons_succ, List.getElem?_cons_zero, Option.bind_some, runS_cons, opS_move, AS.ev, Option.map_some, AS.put, List.set_cons_succ, List.set_cons_zero, opS_len, effR, ty_slice22, ls_len, opS_bin, effM, ofConst, Value.oneCell', if_true, evBin, decT, stS_guard, reduceCtorEq, if_false, Option.map_none, opS_pick, runS_nil]; (with_reducible refine hK _ ?_); clear hK K)
    refine WpA_cond rfl (fun _ => ?_) (fun h => by simp at h <;> omega)
    ((first | refine WpA_sreg [] [] (by simp) fun K hK => ?_ | refine WpA_seq (WpA_sreg [] [] (by simp) fun K hK => ?_) | refine WpA_seq (WpA_seq (WpA_sreg [] [] (by simp) fun K hK => ?_))); simp (disch := omega) only [prepL, prep1, Nat.zero_add, runS_cons, opS_assign, AS.ev, ofConst, Value.oneCell', if_true, Option.map_some, AS.put, List.set_cons_succ, List.set_cons_zero, runS_nil]; (with_reducible refine hK _ ?_); clear hK K)
    (refine WpA_ret ⟨.inr rfl, ret_now rfl ?_ rfl⟩; simp (disch := omega) only [resA, Tryz.results65, resL, resOne, List.getElem?_cons_succ, List.getElem?_cons_zero, Option.bind_some, tvPair, Option.map_some, fiN])
  by_cases h2 : 16 < M.length
  · refine callC_of Tryz.func65 rfl (by kernel_rfl) ?_; rw [Tryz.ntmps65]
    ((first | refine WpA_sreg [] [] (by simp) fun K hK => ?_ | refine WpA_seq (WpA_sreg [] [] (by simp) fun K hK => ?_) | refine WpA_seq (WpA_seq (WpA_sreg [] [] (by simp) fun K hK => ?_))); simp (disch := omega) only [prepL, prep1, Nat.zero_add, slI, List.length_cons, List.length_nil, List.replicate, List.cons_append, List.nil_append, runS_cons, opS_assign, AS.ev, ofConst, Value.oneCell', if_true, Option.map_some, AS.put, List.set_cons_succ, List.set_cons_zero, runS_nil]; (with_reducible refine hK _ ?_); clear hK K)
    ((first | refine WpA_sreg [] [] (by simp) fun K hK => ?_ | refine WpA_seq (WpA_sreg [] [] (by simp) fun K hK => ?_) | refine WpA_seq (WpA_seq (WpA_sreg [] [] (by simp) fun K hK => ?_))); simp (disch := omega) only [prepL, prep1, Nat.zero_add, Nat.reduceAdd, List.getElem?_toArray, List.getElem?_cons_succ, List.getElem?_cons_zero, Option.bind_some, runS_cons, opS_move, AS.ev, Option.map_some, AS.put, List.set_cons_succ, List.set_cons_zero, opS_len, effR, ty_slice22, ls_len, opS_bin, effM, ofConst, Value.oneCell', if_true, evBin, decF, stS_guard, ifT, decT, opS_pick, runS_nil]; (with_reducible refine hK _ ?_); clear hK K)
    refine WpA_cond rfl (fun _ => ?_) (fun h => by simp at h <;> omega)
    ((first | refine WpA_sreg [] [] (by simp) fun K hK => ?_ | refine WpA_seq (WpA_sreg [] [] (by simp) fun K hK => ?_) | refine WpA_seq (WpA_seq (WpA_sreg [] [] (by simp) fun K hK => ?_))); simp (disch := omega) only [prepL, prep1, Nat.zero_add, runS_cons, opS_assign, AS.ev, ofConst, Value.oneCell', if_true, Option.map_some, AS.put, List.set_cons_succ, List.set_cons_zero, runS_nil]; (with_reducible refine hK _ ?_); clear hK K)
    (refine WpA_ret ⟨.inr rfl, ret_now rfl ?_ rfl⟩; simp (disch := omega) only [resA, Tryz.results65, resL, resOne, List.getElem?_cons_succ, List.getElem?_cons_zero, Option.bind_some, tvPair, Option.map_some, fiN])
  have h0 := headD_at (M := M) (by omega)
  refine callC_of Tryz.func65 rfl (by kernel_rfl) ?_; rw [Tryz.ntmps65]
  ((first | refine WpA_sreg [] [] (by simp) fun K hK => ?_ | refine WpA_seq (WpA_sreg [] [] (by simp) fun K hK => ?_) | refine WpA_seq (WpA_seq (WpA_sreg [] [] (by simp) fun K hK => ?_))); simp (disch := omega) only [prepL, prep1, Nat.zero_add, slI, List.length_cons, List.length_nil, List.replicate, List.cons_append, List.nil_append, runS_cons, opS_assign, AS.ev, ofConst, Value.oneCell', if_true, Option.map_some, AS.put, List.set_cons_succ, List.set_cons_zero, runS_nil]; (with_reducible refine hK _ ?_); clear hK K)
  ((first | refine WpA_sreg [] [] (by simp) fun K hK => ?_ | refine WpA_seq (WpA_sreg [] [] (by simp) fun K hK => ?_) | refine WpA_seq (WpA_seq (WpA_sreg [] [] (by simp) fun K hK => ?_))); simp (disch := omega) only [prepL, prep1, Nat.zero_add, Nat.reduceAdd, List.getElem?_toArray, List.getElem?_cons_succ, List.getElem?_cons_zero, Option.bind_some, runS_cons, opS_move, AS.ev, Option.map_some, AS.put, List.set_cons_succ, List.set_cons_zero, opS_len, effR, ty_slice22, ls_len, opS_bin, effM, ofConst, Value.oneCell', if_true, evBin, decF, stS_guard, ifT, opS_pick, runS_nil]; (with_reducible refine hK _ ?_); clear hK K)
  refine WpA_cond rfl (fun h => by simp at h <;> omega) (fun _ => WpA_skip ?_)
  show WpA _ _ _ _
  ((first | refine WpA_sreg [] [] (by simp) fun K hK => ?_ | refine WpA_seq (WpA_sreg [] [] (by simp) fun K hK => ?_) | refine WpA_seq (WpA_seq (WpA_sreg [] [] (by simp) fun K hK => ?_))); simp (disch := omega) only [prepL, prep1, Nat.zero_add, Nat.reduceAdd, runS_cons, opS_move, AS.ev, List.getElem?_cons_zero, Option.map_some, AS.put, List.set_cons_succ, List.set_cons_zero, opS_len, effR, ty_slice22, List.getElem?_cons_succ, ls_len, ofConst, Value.oneCell', if_true, runS_nil]; (with_reducible refine hK _ ?_); clear hK K)
  refine WpA_forb (G := FiN M) (fun g => ⟨[slI M, .one .junk, .raw (.slice none 0 0), .raw (.bool false), .one .junk, .one .junk, .one .junk, .one .junk, .one .junk, .one .junk, .one .junk, .one .junk, .one .junk, .one .junk, .one .junk, .one .junk, .one .junk, slI M, .raw (.int .i64 (M.length : Int)), .raw (.int .i64 (g.i : Int)), .one .junk, .one .junk, .one .junk, .one .junk, .one .junk, .one .junk, .one .junk, .one .junk, .one .junk, .one .junk, .one .junk, .one .junk, .one .junk, .one .junk, .one .junk, .one .junk, .one .junk, .one .junk, .one .junk, .one .junk, .one .junk, .one .junk, .one .junk, .one .junk, .one .junk, .one .junk, .one .junk, .one .junk, .one .junk, .one .junk, .one .junk, .one .junk, .one .junk, .one .junk, .one .junk, .one .junk, .one .junk, .one .junk, .one .junk, .one .junk, .one .junk, .one .junk, .one .junk, .one .junk, .one .junk, .one .junk, .one .junk, .one .junk, .one .junk, .one .junk, .one .junk, .one .junk, .one .junk, .one .junk, .one .junk, .one .junk, .one .junk, .one .junk], Hm []⟩) (fun g => M.length - g.i) ⟨0, by omega, fun r hr => by simp at hr⟩ ?_ ?_
  · refine Weak_sub trivial ?_
    simp [wkL, okTV, okAV]
  · rintro ⟨i, hi, ok⟩
    simp only
    by_cases hm : i < M.length
    · obtain ⟨r, hr⟩ := getElem?_of_lt hm
      ((first | refine WpA_sreg [] [] (by simp) fun K hK => ?_ | refine WpA_seq (WpA_sreg [] [] (by simp) fun K hK => ?_) | refine WpA_seq (WpA_seq (WpA_sreg [] [] (by simp) fun K hK => ?_))); simp (disch := omega) only [prepL, prep1, slI, Hm, runS_cons, opS_bin, effM, AS.ev, List.getElem?_cons_succ, List.getElem?_cons_zero, evBin, decT, if_true, Option.map_some, AS.put, List.set_cons_succ, List.set_cons_zero, runS_nil]; (with_reducible refine hK _ ?_); clear hK K)
      refine WpA_seq (WpA_cond rfl (fun _ => WpA_skip ?_) (fun h => by simp at h <;> omega))
      refine WpA_seq (WpA_block ?_)
      ((first | refine WpA_sreg [] [] (by simp) fun K hK => ?_ | refine WpA_seq (WpA_sreg [] [] (by simp) fun K hK => ?_) | refine WpA_seq (WpA_seq (WpA_sreg [] [] (by simp) fun K hK => ?_))); simp (disch := omega) only [prepL, prep1, Nat.zero_add, Nat.reduceAdd, runS_cons, opS_indexAddr, effR, AS.ev, List.getElem?_cons_succ, List.getElem?_cons_zero, natOf_pos, Int.toNat_natCast, ty_slice22, ls_get, hr, Option.map_some, fR, ty_sz23, List.length_cons, List.length_nil, if_true, AS.put, List.set_cons_succ, List.set_cons_zero, opS_load, packT, ty_agg23, List.map_cons, List.map_nil, opS_assign, runS_nil]; (with_reducible refine hK _ ?_); clear hK K)
      by_cases c1 : r.length < 1
      · ((first | refine WpA_sreg [] [] (by simp) fun K hK => ?_ | refine WpA_seq (WpA_sreg [] [] (by simp) fun K hK => ?_) | refine WpA_seq (WpA_seq (WpA_sreg [] [] (by simp) fun K hK => ?_))); simp (disch := omega) only [prepL, prep1, Nat.zero_add, Nat.reduceAdd, List.getElem?_toArray, List.getElem?_cons_succ, List.getElem?_cons_zero, Option.bind_some, runS_cons, opS_move, AS.ev, Option.map_some, AS.put, List.set_cons_succ, List.set_cons_zero, opS_len, effR, ty_slice23, ls_len, opS_bin, effM, ofConst, Value.oneCell', if_true, evBin, decT, stS_guard, reduceCtorEq, if_false, Option.map_none, opS_pick, opS_indexAddr, natOf_pos, Int.reduceToNat, ty_slice22, opS_load, runS_nil]; (with_reducible refine hK _ ?_); clear hK K)
        refine WpA_cond rfl (fun _ => ?_) (fun h => by simp at h <;> omega)
        ((first | refine WpA_sreg [] [] (by simp) fun K hK => ?_ | refine WpA_seq (WpA_sreg [] [] (by simp) fun K hK => ?_) | refine WpA_seq (WpA_seq (WpA_sreg [] [] (by simp) fun K hK => ?_))); simp (disch := omega) only [prepL, prep1, Nat.zero_add, runS_cons, opS_assign, AS.ev, ofConst, Value.oneCell', if_true, Option.map_some, AS.put, List.set_cons_succ, List.set_cons_zero, runS_nil]; (with_reducible refine hK _ ?_); clear hK K)
        (refine WpA_ret ⟨.inr rfl, ret_now rfl ?_ rfl⟩; simp (disch := omega) only [resA, Tryz.results65, resL, resOne, List.getElem?_cons_succ, List.getElem?_cons_zero, Option.bind_some, tvPair, Option.map_some, fiN])
      by_cases c2 : 16 < r.length
      · ((first | refine WpA_sreg [] [] (by simp) fun K hK => ?_ | refine WpA_seq (WpA_sreg [] [] (by simp) fun K hK => ?_) | refine WpA_seq (WpA_seq (WpA_sreg [] [] (by simp) fun K hK => ?_))); simp (disch := omega) only [prepL, prep1, Nat.zero_add, Nat.reduceAdd, List.getElem?_toArray, List.getElem?_cons_succ, List.getElem?_cons_zero, Option.bind_some, runS_cons, opS_move, AS.ev, Option.map_some, AS.put, List.set_cons_succ, List.set_cons_zero, opS_len, effR, ty_slice23, ls_len, opS_bin, effM, ofConst, Value.oneCell', if_true, evBin, decF, stS_guard, ifT, decT, opS_pick, reduceCtorEq, if_false, Option.map_none, opS_indexAddr, natOf_pos, Int.reduceToNat, ty_slice22, opS_load, runS_nil]; (with_reducible refine hK _ ?_); clear hK K)
        refine WpA_cond rfl (fun _ => ?_) (fun h => by simp at h <;> omega)
        ((first | refine WpA_sreg [] [] (by simp) fun K hK => ?_ | refine WpA_seq (WpA_sreg [] [] (by simp) fun K hK => ?_) | refine WpA_seq (WpA_seq (WpA_sreg [] [] (by simp) fun K hK => ?_))); simp (disch := omega) only [prepL, prep1, Nat.zero_add, runS_cons, opS_assign, AS.ev, ofConst, Value.oneCell', if_true, Option.map_some, AS.put, List.set_cons_succ, List.set_cons_zero, runS_nil]; (with_reducible refine hK _ ?_); clear hK K)
        (refine WpA_ret ⟨.inr rfl, ret_now rfl ?_ rfl⟩; simp (disch := omega) only [resA, Tryz.results65, resL, resOne, List.getElem?_cons_succ, List.getElem?_cons_zero, Option.bind_some, tvPair, Option.map_some, fiN])
      by_cases c3 : r.length = (M.headD []).length
      · ((first | refine WpA_sreg [] [] (by simp) fun K hK => ?_ | refine WpA_seq (WpA_sreg [] [] (by simp) fun K hK => ?_) | refine WpA_seq (WpA_seq (WpA_sreg [] [] (by simp) fun K hK => ?_))); simp (disch := omega) only [prepL, prep1, Nat.zero_add, Nat.reduceAdd, List.getElem?_toArray, List.getElem?_cons_succ, List.getElem?_cons_zero, Option.bind_some, runS_cons, opS_move, AS.ev, Option.map_some, AS.put, List.set_cons_succ, List.set_cons_zero, opS_len, effR, ty_slice23, ls_len, opS_bin, effM, ofConst, Value.oneCell', if_true, evBin, decF, stS_guard, ifT, opS_pick, opS_indexAddr, natOf_pos, Int.reduceToNat, ty_slice22, ls_get, h0, fR, ty_sz23, List.length_cons, List.length_nil, opS_load, packT, ty_agg23, List.map_cons, List.map_nil, decT, Bool.not_true, runS_nil]; (with_reducible refine hK _ ?_); clear hK K)
        refine WpA_cond rfl (fun h => by simp at h <;> omega) (fun _ => WpA_skip ?_)
        show WpA _ _ _ _
        ((refine WpA_lreg [] [] (by simp) fun K hK => ?_); simp (disch := omega) only [prepL, prep1, Nat.zero_add, runS_cons, opS_bin, effM, AS.ev, List.getElem?_cons_succ, List.getElem?_cons_zero, ofConst, Value.oneCell', if_true, evBin, wrapI, Option.map_some, AS.put, List.set_cons_succ, List.set_cons_zero, opS_move, runS_nil]; (with_reducible refine hK _ ?_); clear hK K)
        refine ⟨⟨i + 1, by omega, fun r' hr' => ?_⟩, by simp only; omega, Weak_sub trivial ?_⟩
        · rw [List.take_add_one, hr] at hr'
          rcases List.mem_append.1 hr' with h | h
          · exact ok r' h
          · have : r' = r := by simpa using h
            subst this
            exact ⟨by omega, by omega, c3⟩
        · simp [wkL, okTV, okAV]
      · ((first | refine WpA_sreg [] [] (by simp) fun K hK => ?_ | refine WpA_seq (WpA_sreg [] [] (by simp) fun K hK => ?_) | refine WpA_seq (WpA_seq (WpA_sreg [] [] (by simp) fun K hK => ?_))); simp (disch := omega) only [prepL, prep1, Nat.zero_add, Nat.reduceAdd, List.getElem?_toArray, List.getElem?_cons_succ, List.getElem?_cons_zero, Option.bind_some, runS_cons, opS_move, AS.ev, Option.map_some, AS.put, List.set_cons_succ, List.set_cons_zero, opS_len, effR, ty_slice23, ls_len, opS_bin, effM, ofConst, Value.oneCell', if_true, evBin, decF, stS_guard, ifT, opS_pick, opS_indexAddr, natOf_pos, Int.reduceToNat, ty_slice22, ls_get, h0, fR, ty_sz23, List.length_cons, List.length_nil, opS_load, packT, ty_agg23, List.map_cons, List.map_nil, Bool.not_false, runS_nil]; (with_reducible refine hK _ ?_); clear hK K)
        refine WpA_cond rfl (fun _ => ?_) (fun h => by simp at h <;> omega)
        ((first | refine WpA_sreg [] [] (by simp) fun K hK => ?_ | refine WpA_seq (WpA_sreg [] [] (by simp) fun K hK => ?_) | refine WpA_seq (WpA_seq (WpA_sreg [] [] (by simp) fun K hK => ?_))); simp (disch := omega) only [prepL, prep1, Nat.zero_add, runS_cons, opS_assign, AS.ev, ofConst, Value.oneCell', if_true, Option.map_some, AS.put, List.set_cons_succ, List.set_cons_zero, runS_nil]; (with_reducible refine hK _ ?_); clear hK K)
        (refine WpA_ret ⟨.inr rfl, ret_now rfl ?_ rfl⟩; simp (disch := omega) only [resA, Tryz.results65, resL, resOne, List.getElem?_cons_succ, List.getElem?_cons_zero, Option.bind_some, tvPair, Option.map_some, fiN])
    · exact absurd ⟨by omega, by omega, fun r hr => ok r (by rw [List.take_of_length_le (by omega)]; exact hr)⟩ hM

set_option maxRecDepth 100000 in
set_option maxHeartbeats 4000000 in
theorem Of_C (n c : Nat) (f : Nat → Nat → Int) (hn1 : 1 ≤ n) (hn : n ≤ 16) (hc1 : 1 ≤ c) (hc : c ≤ 16) (hf : ∀ i j, i < n → j < c → -9223372036854775808 ≤ f i j ∧ f i j ≤ 9223372036854775807) :
    CallC Tryz.prog 39 [slI (mat n c f)] ⟨[], slM (mat n c f)⟩ := by
  have hF := FromInts_C n c f hn1 hn hc1 hc hf
  refine callC_of Tryz.func39 rfl (by kernel_rfl) ?_; rw [Tryz.ntmps39]
  ((first | refine WpA_sreg [] [] (by simp) fun K hK => ?_ | refine WpA_seq (WpA_sreg [] [] (by simp) fun K hK => ?_) | refine WpA_seq (WpA_seq (WpA_sreg [] [] (by simp) fun K hK => ?_))); simp (disch := omega) only [prepL, prep1, slI, List.length_cons, List.length_nil, Nat.zero_add, List.replicate, List.cons_append, List.nil_append, runS_cons, opS_assign, AS.ev, ofConst, Value.oneCell', if_true, Option.map_some, AS.put, List.set_cons_succ, List.set_cons_zero, runS_nil]; (with_reducible refine hK _ ?_); clear hK K)
  ((first | refine WpA_sreg [⟨1, _, _, _, hF⟩] [] (by simp) fun K hK => ?_ | refine WpA_seq (WpA_sreg [⟨1, _, _, _, hF⟩] [] (by simp) fun K hK => ?_) | refine WpA_seq (WpA_seq (WpA_sreg [⟨1, _, _, _, hF⟩] [] (by simp) fun K hK => ?_))); simp (disch := omega) only [slI, fiY, prepL, prep1, Nat.zero_add, Nat.reduceAdd, runS_cons, opS_move, AS.ev, List.getElem?_cons_zero, Option.map_some, AS.put, List.set_cons_succ, List.set_cons_zero, opS_call, newS, effA, List.find?_cons, beq_self_eq_true, evAll, List.getElem?_cons_succ, List.map_cons, norm, List.map_nil, CallRes.plain, List.isEmpty_nil, rawTV, List.all_cons, rawAV, List.all_nil, Bool.and_true, Bool.and_self, Bool.and_false, normOk, Bool.not_true, noRefTV, noRefAV, Bool.or_true, and_self, renTV, renAV, if_true, opS_extract, effM, opS_assign, runS_nil]; (with_reducible refine hK _ ?_); clear hK K)
  ((first | refine WpA_sreg [] [] (by simp) fun K hK => ?_ | refine WpA_seq (WpA_sreg [] [] (by simp) fun K hK => ?_) | refine WpA_seq (WpA_seq (WpA_sreg [] [] (by simp) fun K hK => ?_))); simp (disch := omega) only [prepL, prep1, Nat.zero_add, runS_cons, opS_move, AS.ev, List.getElem?_cons_succ, List.getElem?_cons_zero, Option.map_some, AS.put, List.set_cons_succ, List.set_cons_zero, opS_assign, runS_nil]; (with_reducible refine hK _ ?_); clear hK K)
  (refine WpA_ret ⟨.inr rfl, ret_now rfl ?_ rfl⟩; simp (disch := omega) only [resA, Tryz.results39, resOne, List.getElem?_cons_succ, List.getElem?_cons_zero, slM])
end Go.Proofs.YtennjcjjegbhgaaGreat

/-
  quadformref04.first, quadformref03.Select and Copy over the abstract machine.
-/
namespace Go.Proofs.YtennjcjjegbhgaaGreat
open Go.RowKit

abbrev slN (l : List Nat) : TV := .one (.p (.sl (ls fN l)))


set_option maxRecDepth 100000 in
set_option maxHeartbeats 4000000 in
theorem first_C (k more : Nat) (hk : k ≤ 16) (hm : more ≤ 16) : CallC Tryz.prog 148 [.raw (.int .i64 (k : Int)), .raw (.int .i64 (more : Int))] ⟨[], slN (List.range k ++ [more])⟩ := by
  refine callC_of Tryz.func148 rfl (by kernel_rfl) ?_; rw [Tryz.ntmps148]
  ((first | refine WpA_sreg [] [] (by simp) fun K hK => ?_ | refine WpA_seq (WpA_sreg [] [] (by simp) fun K hK => ?_) | refine WpA_seq (WpA_seq (WpA_sreg [] [] (by simp) fun K hK => ?_))); simp (disch := omega) only [prepL, prep1, List.length_cons, List.length_nil, Nat.zero_add, Nat.reduceAdd, List.replicate, List.cons_append, List.nil_append, runS_cons, opS_assign, AS.ev, ofConst, Value.oneCell', if_true, Option.map_some, AS.put, List.set_cons_succ, List.set_cons_zero, runS_nil]; (with_reducible refine hK _ ?_); clear hK K)
  ((first | refine WpA_sreg [] [] (by simp) fun K hK => ?_ | refine WpA_seq (WpA_sreg [] [] (by simp) fun K hK => ?_) | refine WpA_seq (WpA_seq (WpA_sreg [] [] (by simp) fun K hK => ?_))); simp (disch := omega) only [prepL, prep1, runS_cons, opS_assign, AS.ev, ofConst, Value.oneCell', if_true, Option.map_some, AS.put, List.set_cons_succ, List.set_cons_zero, runS_nil]; (with_reducible refine hK _ ?_); clear hK K)
  ((first | refine WpA_sreg [] [] (by simp) fun K hK => ?_ | refine WpA_seq (WpA_sreg [] [] (by simp) fun K hK => ?_) | refine WpA_seq (WpA_seq (WpA_sreg [] [] (by simp) fun K hK => ?_))); simp (disch := omega) only [prepL, prep1, runS_cons, opS_assign, AS.ev, ofConst, Value.oneCell', if_true, Option.map_some, AS.put, List.set_cons_succ, List.set_cons_zero, runS_nil]; (with_reducible refine hK _ ?_); clear hK K)
  refine WpA_forb (G := FiG k) (fun g => ⟨[.raw (.int .i64 (k : Int)), .raw (.int .i64 (more : Int)), .one .junk, .one .junk, .raw (.slice none 0 0), .one (.sl 15 0 0 g.i), .raw (.int .i64 (g.i : Int)), .one .junk, .one .junk, .one .junk, .one .junk, .one .junk, .one .junk, .one .junk, .one .junk, .one .junk, .one .junk, .one .junk, .one .junk, .one .junk], Hm [(15, [⟨3, 1, lc fN (List.range g.i)⟩])]⟩) (fun g => k - g.i) ⟨0, by omega⟩ ?_ ?_
  · refine (Weak_nil (k := 5) (d := 15) 3 1 (by omega) rfl rfl).trans (Weak_sub ⟨rfl, trivial⟩ ?_)
    simp [wkL, okTV, okAV]
  · rintro ⟨i, hi⟩
    simp only
    by_cases hm : i < k
    · ((first | refine WpA_sreg [] [] (by simp) fun K hK => ?_ | refine WpA_seq (WpA_sreg [] [] (by simp) fun K hK => ?_) | refine WpA_seq (WpA_seq (WpA_sreg [] [] (by simp) fun K hK => ?_))); simp (disch := omega) only [prepL, prep1, Nat.zero_add, Nat.reduceAdd, Hm, runS_cons, opS_move, AS.ev, List.getElem?_cons_succ, List.getElem?_cons_zero, Option.map_some, AS.put, List.set_cons_succ, List.set_cons_zero, opS_bin, effM, evBin, decT, if_true, runS_nil]; (with_reducible refine hK _ ?_); clear hK K)
      refine WpA_cond rfl (fun _ => WpA_skip ?_) (fun h => by simp at h <;> omega)
      refine WpA_seq (WpA_block ?_)
      ((refine WpA_lreg [] [] (by simp) fun K hK => ?_); simp (disch := omega) only [prepL, prep1, Nat.zero_add, Nat.reduceAdd, runS_cons, opS_move, AS.ev, List.getElem?_cons_succ, List.getElem?_cons_zero, Option.map_some, AS.put, List.set_cons_succ, List.set_cons_zero, opS_buildSlice, newS, effA, ty_slice156, ty_zero3, ty_sz3, litA, Option.bind_some, cellsOf, List.length_cons, List.length_nil, List.all_cons, isPure, List.all_nil, Bool.and_self, and_self, if_true, Nat.reduceMul, Nat.reduceLeDiff, true_and, List.contains_nil, Bool.false_eq_true, List.map_cons, unP, List.map_nil, if_false, ifT, opS_append, appS, effD, newsOf, ty_by3, lc_allp, lc_len, List.length_range, allcons, allnil, and_true, killO, lc_kill, lcN_snoc, wrS, killTV, killAV, beq_self_eq_true, opS_assign, runS_nil]; (with_reducible refine hK _ ?_); clear hK K)
      show WpA _ _ _ _
      ((refine WpA_lreg [] [] (by simp) fun K hK => ?_); simp (disch := omega) only [prepL, prep1, Nat.zero_add, Nat.reduceAdd, runS_cons, opS_move, AS.ev, List.getElem?_cons_succ, List.getElem?_cons_zero, Option.map_some, AS.put, List.set_cons_succ, List.set_cons_zero, opS_bin, effM, ofConst, Value.oneCell', if_true, evBin, wrapI, opS_assign, runS_nil]; (with_reducible refine hK _ ?_); clear hK K)
      refine ⟨⟨i + 1, by omega⟩, by simp only; omega, Weak_sub ⟨?_, trivial⟩ ?_⟩
      · rw [List.range_succ]; rfl
      · simp [wkL, okTV, okAV]
    · have hik : i = k := by omega
      subst hik
      ((first | refine WpA_sreg [] [] (by simp) fun K hK => ?_ | refine WpA_seq (WpA_sreg [] [] (by simp) fun K hK => ?_) | refine WpA_seq (WpA_seq (WpA_sreg [] [] (by simp) fun K hK => ?_))); simp (disch := omega) only [prepL, prep1, Nat.zero_add, Nat.reduceAdd, Hm, runS_cons, opS_move, AS.ev, List.getElem?_cons_succ, List.getElem?_cons_zero, Option.map_some, AS.put, List.set_cons_succ, List.set_cons_zero, opS_bin, effM, evBin, decF, if_true, runS_nil]; (with_reducible refine hK _ ?_); clear hK K)
      refine WpA_cond rfl (fun h => by simp at h <;> omega) (fun _ => WpA_exit ?_)
      show WpA _ _ _ _
      ((first | refine WpA_sreg [] [] (by simp) fun K hK => ?_ | refine WpA_seq (WpA_sreg [] [] (by simp) fun K hK => ?_) | refine WpA_seq (WpA_seq (WpA_sreg [] [] (by simp) fun K hK => ?_))); simp (disch := omega) only [prepL, prep1, Nat.zero_add, Nat.reduceAdd, runS_cons, opS_move, AS.ev, List.getElem?_cons_succ, List.getElem?_cons_zero, Option.map_some, AS.put, List.set_cons_succ, List.set_cons_zero, opS_buildSlice, newS, effA, ty_slice156, ty_zero3, ty_sz3, litA, Option.bind_some, cellsOf, List.length_cons, List.length_nil, List.all_cons, isPure, List.all_nil, Bool.and_self, and_self, if_true, Nat.reduceMul, Nat.reduceLeDiff, true_and, List.contains_nil, Bool.false_eq_true, List.map_cons, unP, List.map_nil, if_false, ifT, opS_append, appS, effD, newsOf, ty_by3, lc_allp, lc_len, List.length_range, allcons, allnil, and_true, killO, lc_kill, lcN_snoc, wrS, killTV, killAV, beq_self_eq_true, opS_assign, runS_nil]; (with_reducible refine hK _ ?_); clear hK K)
      refine WpA_ret ⟨.inr rfl, ret_fz 15 (fzOk_one rfl) ?_ rfl⟩
      have eT : List.take (i + 1) (List.range i ++ [more]) = List.range i ++ [more] := List.take_of_length_le (by simp)
      simp (disch := omega) only [resA, Tryz.results148, resOne, List.map_cons, fzTV, fzAV, updH, ifT, List.getElem?_cons_zero, Nat.zero_add, lc_take, eT, List.drop_zero, lc_cellF, if_true, List.map_nil, List.getElem?_cons_succ, slN]

structure SeG (n : Nat) where
  i : Nat
  hi : i ≤ n

theorem lcZ_snoc (l : List Int) (v : Int) : lc fZ l ++ [[.p (.raw (.bool (decide (v < 0)))), .p (.sl (ls fU (limbs v.natAbs)))]] = lc fZ (l ++ [v]) := by simp [lc, fZ]
theorem lcR_snoc (M : List (List Int)) (r : List Int) : lc (fR fZ) M ++ [[.p (.sl (ls fZ r))]] = lc (fR fZ) (M ++ [r]) := by simp [lc, fR]
theorem take_snoc {α β : Type} {l : List α} {i : Nat} {x : α} (g : α → β) (h : l[i]? = some x) : (l.take i).map g ++ [g x] = (l.take (i + 1)).map g := by
  rw [List.take_add_one, h]; simp

set_option maxRecDepth 100000 in
set_option maxHeartbeats 4000000 in
theorem Select_C (n c : Nat) (f : Nat → Nat → Int) (rs cs : List Nat) (hn : n ≤ 16) (hc : c ≤ 16) (hr : ∀ x ∈ rs, x < n) (hs : ∀ x ∈ cs, x < c) (lr : rs.length ≤ 17) (lcs : cs.length ≤ 17) :
    CallC Tryz.prog 147 [slM (mat n c f), slN rs, slN cs] ⟨[], slM (rs.map fun i => cs.map (f i))⟩ := by
  have hml := mat_len n c f
  refine callC_of Tryz.func147 rfl (by kernel_rfl) ?_; rw [Tryz.ntmps147]
  ((first | refine WpA_sreg [] [] (by simp) fun K hK => ?_ | refine WpA_seq (WpA_sreg [] [] (by simp) fun K hK => ?_) | refine WpA_seq (WpA_seq (WpA_sreg [] [] (by simp) fun K hK => ?_))); simp (disch := omega) only [prepL, prep1, slM, slN, List.length_cons, List.length_nil, Nat.zero_add, Nat.reduceAdd, List.replicate, List.cons_append, List.nil_append, runS_cons, opS_assign, AS.ev, ofConst, Value.oneCell', if_true, Option.map_some, AS.put, List.set_cons_succ, List.set_cons_zero, runS_nil]; (with_reducible refine hK _ ?_); clear hK K)
  ((first | refine WpA_sreg [] [] (by simp) fun K hK => ?_ | refine WpA_seq (WpA_sreg [] [] (by simp) fun K hK => ?_) | refine WpA_seq (WpA_seq (WpA_sreg [] [] (by simp) fun K hK => ?_))); simp (disch := omega) only [prepL, prep1, runS_cons, opS_assign, AS.ev, ofConst, Value.oneCell', if_true, Option.map_some, AS.put, List.set_cons_succ, List.set_cons_zero, runS_nil]; (with_reducible refine hK _ ?_); clear hK K)
  ((first | refine WpA_sreg [] [] (by simp) fun K hK => ?_ | refine WpA_seq (WpA_sreg [] [] (by simp) fun K hK => ?_) | refine WpA_seq (WpA_seq (WpA_sreg [] [] (by simp) fun K hK => ?_))); simp (disch := omega) only [prepL, prep1, Nat.zero_add, Nat.reduceAdd, runS_cons, opS_move, AS.ev, List.getElem?_cons_succ, List.getElem?_cons_zero, Option.map_some, AS.put, List.set_cons_succ, List.set_cons_zero, opS_len, effR, ty_slice156, ls_len, ofConst, Value.oneCell', if_true, runS_nil]; (with_reducible refine hK _ ?_); clear hK K)
  refine WpA_forb (G := SeG rs.length) (fun g => ⟨[slM (mat n c f), slN rs, slN cs, .one .junk, .one .junk, .one .junk, .raw (.slice none 0 0), .one (.sl 39 0 0 g.i), .one .junk, .one .junk, .one .junk, .one .junk, .one .junk, slN rs, .raw (.int .i64 (rs.length : Int)), .raw (.int .i64 (g.i : Int)), .one .junk, .one .junk, .one .junk, .one .junk, .one .junk, .one .junk, .one .junk, .one .junk, .one .junk, .one .junk, .one .junk, .one .junk, .one .junk, .one .junk, .one .junk, .one .junk, .one .junk, .one .junk, .one .junk, .one .junk, .one .junk, .one .junk, .one .junk, .one .junk, .one .junk, .one .junk], Hm [(39, [⟨120, 1, lc (fR fZ) ((rs.take g.i).map fun i => cs.map (f i))⟩])]⟩) (fun g => rs.length - g.i) ⟨0, by omega⟩ ?_ ?_
  · refine (Weak_nil (k := 7) (d := 39) 120 1 (by omega) rfl rfl).trans (Weak_sub ⟨rfl, trivial⟩ ?_)
    simp [wkL, okTV, okAV]
  · rintro ⟨i, hi⟩
    simp only
    by_cases hm : i < rs.length
    · obtain ⟨r, hri⟩ := getElem?_of_lt hm
      have hrn := hr r (List.mem_of_getElem? hri)
      have hrow := mat_get c f hrn
      ((first | refine WpA_sreg [] [] (by simp) fun K hK => ?_ | refine WpA_seq (WpA_sreg [] [] (by simp) fun K hK => ?_) | refine WpA_seq (WpA_seq (WpA_sreg [] [] (by simp) fun K hK => ?_))); simp (disch := omega) only [prepL, prep1, slM, slN, Hm, runS_cons, opS_bin, effM, AS.ev, List.getElem?_cons_succ, List.getElem?_cons_zero, evBin, decT, if_true, Option.map_some, AS.put, List.set_cons_succ, List.set_cons_zero, runS_nil]; (with_reducible refine hK _ ?_); clear hK K)
      refine WpA_seq (WpA_cond rfl (fun _ => WpA_skip ?_) (fun h => by simp at h <;> omega))
      refine WpA_seq (WpA_block ?_)
      ((first | refine WpA_sreg [] [] (by simp) fun K hK => ?_ | refine WpA_seq (WpA_sreg [] [] (by simp) fun K hK => ?_) | refine WpA_seq (WpA_seq (WpA_sreg [] [] (by simp) fun K hK => ?_))); simp (disch := omega) only [prepL, prep1, Nat.zero_add, Nat.reduceAdd, runS_cons, opS_indexAddr, effR, AS.ev, List.getElem?_cons_succ, List.getElem?_cons_zero, natOf_pos, Int.toNat_natCast, ty_slice156, ls_get, hri, Option.map_some, fN, ty_sz3, List.length_cons, List.length_nil, if_true, AS.put, List.set_cons_succ, List.set_cons_zero, opS_load, packT, ty_agg3, List.map_cons, List.map_nil, opS_assign, runS_nil]; (with_reducible refine hK _ ?_); clear hK K)
      ((first | refine WpA_sreg [] [] (by simp) fun K hK => ?_ | refine WpA_seq (WpA_sreg [] [] (by simp) fun K hK => ?_) | refine WpA_seq (WpA_seq (WpA_sreg [] [] (by simp) fun K hK => ?_))); simp (disch := omega) only [prepL, prep1, runS_cons, opS_assign, AS.ev, ofConst, Value.oneCell', if_true, Option.map_some, AS.put, List.set_cons_succ, List.set_cons_zero, runS_nil]; (with_reducible refine hK _ ?_); clear hK K)
      ((first | refine WpA_sreg [] [] (by simp) fun K hK => ?_ | refine WpA_seq (WpA_sreg [] [] (by simp) fun K hK => ?_) | refine WpA_seq (WpA_seq (WpA_sreg [] [] (by simp) fun K hK => ?_))); simp (disch := omega) only [prepL, prep1, Nat.zero_add, Nat.reduceAdd, runS_cons, opS_move, AS.ev, List.getElem?_cons_succ, List.getElem?_cons_zero, Option.map_some, AS.put, List.set_cons_succ, List.set_cons_zero, opS_len, effR, ty_slice156, ls_len, ofConst, Value.oneCell', if_true, runS_nil]; (with_reducible refine hK _ ?_); clear hK K)
      refine WpA_forb (G := SeG cs.length) (fun g => ⟨[slM (mat n c f), slN rs, slN cs, .one .junk, .one .junk, .one .junk, .raw (.slice none 0 0), .one (.sl 39 0 0 i), .one .junk, .raw (.int .i64 (r : Int)), .one (.sl 34 0 0 g.i), .one .junk, .one .junk, slN rs, .raw (.int .i64 (rs.length : Int)), .raw (.int .i64 (i : Int)), .one .junk, .one .junk, .one .junk, slN cs, .raw (.int .i64 (cs.length : Int)), .raw (.int .i64 (g.i : Int)), .one .junk, .one .junk, .one .junk, .one .junk, .one .junk, .one .junk, .one .junk, .one .junk, .one .junk, .one .junk, .one .junk, .one .junk, .one .junk, .one .junk, .one .junk, .one .junk, .one .junk, .one .junk, .one .junk, .one .junk], Hm [(39, [⟨120, 1, lc (fR fZ) ((rs.take i).map fun i => cs.map (f i))⟩]), (34, [⟨51, 2, lc fZ ((cs.take g.i).map (f r))⟩])]⟩) (fun g => cs.length - g.i) ⟨0, by omega⟩ ?_ ?_
      · refine (Weak_nil (k := 10) (d := 34) 51 2 (by omega) rfl rfl).trans (Weak_sub ⟨rfl, rfl, trivial⟩ ?_)
        simp [wkL, okTV, okAV]
      · rintro ⟨j, hj⟩
        simp only
        by_cases hm2 : j < cs.length
        · obtain ⟨s, hsj⟩ := getElem?_of_lt hm2
          have hsc := hs s (List.mem_of_getElem? hsj)
          have hent := rowF_get (f r) hsc
          have eL : ((cs.take j).map (f r)).length = j := by simp; omega
          ((first | refine WpA_sreg [] [] (by simp) fun K hK => ?_ | refine WpA_seq (WpA_sreg [] [] (by simp) fun K hK => ?_) | refine WpA_seq (WpA_seq (WpA_sreg [] [] (by simp) fun K hK => ?_))); simp (disch := omega) only [prepL, prep1, slM, slN, Hm, runS_cons, opS_bin, effM, AS.ev, List.getElem?_cons_succ, List.getElem?_cons_zero, evBin, decT, if_true, Option.map_some, AS.put, List.set_cons_succ, List.set_cons_zero, runS_nil]; (with_reducible refine hK _ ?_); clear hK K)
          refine WpA_seq (WpA_cond rfl (fun _ => WpA_skip ?_) (fun h => by simp at h <;> omega))
          refine WpA_seq (WpA_block ?_)
          ((first | refine WpA_sreg [] [] (by simp) fun K hK => ?_ | refine WpA_seq (WpA_sreg [] [] (by simp) fun K hK => ?_) | refine WpA_seq (WpA_seq (WpA_sreg [] [] (by simp) fun K hK => ?_))); simp (disch := omega) only [prepL, prep1, Nat.zero_add, Nat.reduceAdd, runS_cons, opS_indexAddr, effR, AS.ev, List.getElem?_cons_succ, List.getElem?_cons_zero, natOf_pos, Int.toNat_natCast, ty_slice156, ls_get, hsj, Option.map_some, fN, ty_sz3, List.length_cons, List.length_nil, if_true, AS.put, List.set_cons_succ, List.set_cons_zero, opS_load, packT, ty_agg3, List.map_cons, List.map_nil, opS_assign, runS_nil]; (with_reducible refine hK _ ?_); clear hK K)
          ((refine WpA_lreg [] [] (by simp) fun K hK => ?_); simp (disch := omega) only [prepL, prep1, Nat.zero_add, Nat.reduceAdd, runS_cons, opS_move, AS.ev, List.getElem?_cons_succ, List.getElem?_cons_zero, Option.map_some, AS.put, List.set_cons_succ, List.set_cons_zero, opS_indexAddr, effR, natOf_pos, Int.toNat_natCast, ty_slice62, ls_get, hrow, fR, ty_sz120, List.length_cons, List.length_nil, if_true, opS_load, packT, ty_agg120, List.map_cons, List.map_nil, ty_slice120, hent, fZ, ty_sz51, ty_agg51, Nat.le_refl, List.take_succ_cons, List.take_zero, opS_buildSlice, newS, effA, ty_zero51, litA, Option.bind_some, cellsOf, List.all_cons, isPure, List.all_nil, Bool.and_self, and_self, Nat.reduceMul, Nat.reduceLeDiff, true_and, List.contains_nil, Bool.false_eq_true, unP, if_false, ifT, opS_append, appS, effD, newsOf, Nat.reduceEqDiff, ty_by51, lc_allp, lc_len, eL, allcons, allnil, and_true, killO, lc_kill, lcZ_snoc, take_snoc (f r) hsj, wrS, killTV, killAV, Nat.reduceBEq, beq_self_eq_true, Bool.and_true, opS_assign, runS_nil]; (with_reducible refine hK _ ?_); clear hK K)
          show WpA _ _ _ _
          ((refine WpA_lreg [] [] (by simp) fun K hK => ?_); simp (disch := omega) only [prepL, prep1, Nat.zero_add, runS_cons, opS_bin, effM, AS.ev, List.getElem?_cons_succ, List.getElem?_cons_zero, ofConst, Value.oneCell', if_true, evBin, wrapI, Option.map_some, AS.put, List.set_cons_succ, List.set_cons_zero, opS_move, runS_nil]; (with_reducible refine hK _ ?_); clear hK K)
          refine ⟨⟨j + 1, by omega⟩, by simp only; omega, Weak_sub ⟨rfl, rfl, trivial⟩ ?_⟩
          simp [wkL, okTV, okAV]
        · have hjc : j = cs.length := by omega
          subst hjc
          ((first | refine WpA_sreg [] [] (by simp) fun K hK => ?_ | refine WpA_seq (WpA_sreg [] [] (by simp) fun K hK => ?_) | refine WpA_seq (WpA_seq (WpA_sreg [] [] (by simp) fun K hK => ?_))); simp (disch := omega) only [prepL, prep1, slM, slN, Hm, runS_cons, opS_bin, effM, AS.ev, List.getElem?_cons_succ, List.getElem?_cons_zero, evBin, decF, if_true, Option.map_some, AS.put, List.set_cons_succ, List.set_cons_zero, runS_nil]; (with_reducible refine hK _ ?_); clear hK K)
          refine WpA_seq (WpA_cond rfl (fun h => by simp at h <;> omega) (fun _ => WpA_exit ?_))
          show WpA _ _ _ _
          refine WpA.weak ((Weak_fz 34 (fzOk_one rfl)).trans (Weak_sub (tm := [slM (mat n c f), slN rs, slN cs, .one .junk, .one .junk, .one .junk, .raw (.slice none 0 0), .one (.sl 39 0 0 i), .one .junk, .one .junk, .one (.p (.sl (ls fZ (cs.map (f r))))), .one .junk, .one .junk, slN rs, .raw (.int .i64 (rs.length : Int)), .raw (.int .i64 (i : Int)), .one .junk, .one .junk, .one .junk, .one .junk, .one .junk, .one .junk, .one .junk, .one .junk, .one .junk, .one .junk, .one .junk, .one .junk, .one .junk, .one .junk, .one .junk, .one .junk, .one .junk, .one .junk, .one .junk, .one .junk, .one .junk, .one .junk, .one .junk, .one .junk, .one .junk, .one .junk]) (l := [(39, [⟨120, 1, lc (fR fZ) ((rs.take i).map fun i => cs.map (f i))⟩])]) ⟨rfl, trivial⟩ (by simp [wkL, okTV, okAV, fzTV, fzAV, Hm, lc_take, lc_cellF, List.take_of_length_le]))) ?_
          have eL : ((rs.take i).map fun i => cs.map (f i)).length = i := by simp; omega
          have eS := take_snoc (fun i => cs.map (f i)) hri
          ((refine WpA_lreg [] [] (by simp) fun K hK => ?_); simp (disch := omega) only [prepL, prep1, Nat.zero_add, Nat.reduceAdd, slM, slN, Hm, runS_cons, opS_move, AS.ev, List.getElem?_cons_succ, List.getElem?_cons_zero, Option.map_some, AS.put, List.set_cons_succ, List.set_cons_zero, opS_buildSlice, newS, effA, ty_slice62, ty_zero120, ty_sz120, litA, Option.bind_some, cellsOf, List.length_cons, List.length_nil, List.all_cons, isPure, List.all_nil, Bool.and_self, and_self, if_true, Nat.reduceMul, Nat.reduceLeDiff, true_and, List.contains_nil, Bool.false_eq_true, List.map_cons, unP, List.map_nil, if_false, ifT, opS_append, appS, effD, newsOf, ty_by120, lc_allp, lc_len, eL, allcons, allnil, and_true, killO, lc_kill, lcR_snoc, eS, wrS, killTV, killAV, beq_self_eq_true, opS_assign, runS_nil]; (with_reducible refine hK _ ?_); clear hK K)
          show WpA _ _ _ _
          ((refine WpA_lreg [] [] (by simp) fun K hK => ?_); simp (disch := omega) only [prepL, prep1, Nat.zero_add, runS_cons, opS_bin, effM, AS.ev, List.getElem?_cons_succ, List.getElem?_cons_zero, ofConst, Value.oneCell', if_true, evBin, wrapI, Option.map_some, AS.put, List.set_cons_succ, List.set_cons_zero, opS_move, runS_nil]; (with_reducible refine hK _ ?_); clear hK K)
          refine ⟨⟨i + 1, by omega⟩, by simp only; omega, Weak_sub ⟨rfl, trivial⟩ ?_⟩
          simp [wkL, okTV, okAV]
    · have hin : i = rs.length := by omega
      subst hin
      ((first | refine WpA_sreg [] [] (by simp) fun K hK => ?_ | refine WpA_seq (WpA_sreg [] [] (by simp) fun K hK => ?_) | refine WpA_seq (WpA_seq (WpA_sreg [] [] (by simp) fun K hK => ?_))); simp (disch := omega) only [prepL, prep1, slM, slN, Hm, runS_cons, opS_bin, effM, AS.ev, List.getElem?_cons_succ, List.getElem?_cons_zero, evBin, decF, if_true, Option.map_some, AS.put, List.set_cons_succ, List.set_cons_zero, runS_nil]; (with_reducible refine hK _ ?_); clear hK K)
      refine WpA_seq (WpA_cond rfl (fun h => by simp at h <;> omega) (fun _ => WpA_exit ?_))
      show WpA _ _ _ _
      ((first | refine WpA_sreg [] [] (by simp) fun K hK => ?_ | refine WpA_seq (WpA_sreg [] [] (by simp) fun K hK => ?_) | refine WpA_seq (WpA_seq (WpA_sreg [] [] (by simp) fun K hK => ?_))); simp (disch := omega) only [prepL, prep1, Nat.zero_add, runS_cons, opS_move, AS.ev, List.getElem?_cons_succ, List.getElem?_cons_zero, Option.map_some, AS.put, List.set_cons_succ, List.set_cons_zero, opS_assign, runS_nil]; (with_reducible refine hK _ ?_); clear hK K)
      refine WpA_ret ⟨.inr rfl, ret_fz 39 (fzOk_one rfl) ?_ rfl⟩
      have eT : List.take rs.length (List.map (fun i => cs.map (f i)) rs) = rs.map fun i => cs.map (f i) := List.take_of_length_le (by simp)
      simp (disch := omega) only [resA, Tryz.results147, resOne, List.take_length, List.map_cons, fzTV, fzAV, ifT, List.getElem?_cons_zero, Nat.zero_add, lc_take, eT, List.drop_zero, lc_cellF, if_true, List.map_nil, List.getElem?_cons_succ, slM]
end Go.Proofs.YtennjcjjegbhgaaGreat

/-
  quadformref03.Copy over the abstract machine.
-/
namespace Go.Proofs.YtennjcjjegbhgaaGreat
open Go.RowKit

abbrev nilC : List AV := [.raw (.slice none 0 0)]
theorem mid_get {α : Type} {A : List α} {x : α} {l : List α} {i : Nat} (h : A.length = i) : (A ++ x :: l)[i]? = some x := by
  rw [List.getElem?_append_right (by omega), h, Nat.sub_self]; rfl
theorem mid_set {α : Type} {A : List α} {x y : α} {l : List α} {i : Nat} (h : A.length = i) : (A ++ x :: l).set i y = A ++ y :: l := by
  rw [List.set_append_right _ _ (by omega), h, Nat.sub_self]; rfl
theorem rwO_kill (k : Nat → Nat → Bool) (R : List (List Int)) : (R.map rwO).map (killO k) = R.map rwO := by
  rw [List.map_map]
  exact List.map_congr_left fun r _ => by simp [killO, rwO, lc_kill]
theorem rwO_kill1 (k : Nat → Nat → Bool) (r : List Int) : killO k (rwO r) = rwO r := by simp [killO, rwO, lc_kill]
theorem spn_kill (d i c : Nat) : (spn d (List.replicate i c)).map (List.map (killAV fun x y => x == d && y == i + 1)) = spn d (List.replicate i c) := by
  apply List.ext_getElem?
  intro k
  rw [List.getElem?_map]
  by_cases h : k < i
  · rw [spn_get d c h]
    have : k ≠ i := by omega
    simp [killAV, this]
  · rw [List.getElem?_eq_none (by rw [spn_len, List.length_replicate]; omega)]; rfl

/-- i rows are copied. -/
def cpO (d n c : Nat) (f : Nat → Nat → Int) (i : Nat) : List OObj := ⟨120, 1, spn d (List.replicate i c) ++ List.replicate (n - i) nilC⟩ :: (mat i c f).map rwO
/-- .. and j + 1 entries of row i. -/
def cpI (d n c : Nat) (f : Nat → Nat → Int) (i j : Nat) : List OObj := ⟨120, 1, spn d (List.replicate i c) ++ [.sl d (i + 1) 0 (j + 1)] :: List.replicate (n - i - 1) nilC⟩ :: ((mat i c f).map rwO ++ [rwO (rowF (j + 1) (f i))])
def cpS (d n c : Nat) (f : Nat → Nat → Int) (i : Nat) : Nat → List OObj
  | 0 => cpO d n c f i
  | j + 1 => cpI d n c f i j
theorem mat_snoc (i c : Nat) (f : Nat → Nat → Int) : mat (i + 1) c f = mat i c f ++ [rowF c (f i)] := by simp [mat, List.range_succ]
theorem rowF_snoc (j : Nat) (g : Nat → Int) : rowF (j + 1) g = rowF j g ++ [g j] := by simp [rowF, List.range_succ]
theorem cp_row {d n c i : Nat} (f : Nat → Nat → Int) (hc : 1 ≤ c) (hi : i < n) : cpS d n c f i c = cpO d n c f (i + 1) := by
  obtain ⟨j, rfl⟩ : ∃ j, c = j + 1 := ⟨c - 1, by omega⟩
  show cpI d n (j + 1) f i j = _
  unfold cpI cpO
  rw [mat_snoc, List.replicate_succ' (n := i), spn_snoc, List.length_replicate]
  simp [Nat.sub_sub]
theorem cp_end (d n c : Nat) (f : Nat → Nat → Int) : cpO d n c f n = mxF d n c f := by
  unfold cpO; simp
theorem cp_open {d n c i : Nat} (f : Nat → Nat → Int) (hi : i < n) : cpO d n c f i = ⟨120, 1, spn d (List.replicate i c) ++ nilC :: List.replicate (n - i - 1) nilC⟩ :: (mat i c f).map rwO := by
  unfold cpO
  rw [show n - i = n - i - 1 + 1 by omega, List.replicate_succ]; rfl


set_option maxRecDepth 100000 in
set_option maxHeartbeats 4000000 in
theorem Copy_C (n c : Nat) (f : Nat → Nat → Int) (hn : n ≤ 17) (hc1 : 1 ≤ c) (hc : c ≤ 17) (hf : ∀ i j, i < n → j < c → Bg (f i j)) :
    CallC Tryz.prog 73 [slM (mat n c f)] ⟨mxF 0 n c f, .one (.sl 0 0 0 n)⟩ := by
  have hml := mat_len n c f
  refine callC_of Tryz.func73 rfl (by kernel_rfl) ?_; rw [Tryz.ntmps73]
  ((first | refine WpA_sreg [] [] (by simp) fun K hK => ?_ | refine WpA_seq (WpA_sreg [] [] (by simp) fun K hK => ?_) | refine WpA_seq (WpA_seq (WpA_sreg [] [] (by simp) fun K hK => ?_))); simp (disch := omega) only [prepL, prep1, slM, List.length_cons, List.length_nil, Nat.zero_add, List.replicate, List.cons_append, List.nil_append, runS_cons, opS_assign, AS.ev, ofConst, Value.oneCell', if_true, Option.map_some, AS.put, List.set_cons_succ, List.set_cons_zero, runS_nil]; (with_reducible refine hK _ ?_); clear hK K)
  ((first | refine WpA_sreg [] [] (by simp) fun K hK => ?_ | refine WpA_seq (WpA_sreg [] [] (by simp) fun K hK => ?_) | refine WpA_seq (WpA_seq (WpA_sreg [] [] (by simp) fun K hK => ?_))); simp (disch := omega) only [prepL, prep1, Nat.zero_add, Nat.reduceAdd, runS_cons, opS_move, AS.ev, List.getElem?_cons_zero, Option.map_some, AS.put, List.set_cons_succ, List.set_cons_zero, opS_len, effR, ty_slice62, List.getElem?_cons_succ, ls_len, hml, opS_makeSlice, newS, effA, ty_zero120, ty_sz120, ty_by120, Int.natCast_nonneg, List.length_cons, List.length_nil, Value.oneCell', List.all_cons, List.all_nil, Bool.and_self, and_true, true_and, Int.toNat_natCast, List.map_cons, List.map_nil, ifT, opS_assign, runS_nil]; (with_reducible refine hK _ ?_); clear hK K)
  ((first | refine WpA_sreg [] [] (by simp) fun K hK => ?_ | refine WpA_seq (WpA_sreg [] [] (by simp) fun K hK => ?_) | refine WpA_seq (WpA_seq (WpA_sreg [] [] (by simp) fun K hK => ?_))); simp (disch := omega) only [prepL, prep1, Nat.zero_add, Nat.reduceAdd, runS_cons, opS_move, AS.ev, List.getElem?_cons_zero, Option.map_some, AS.put, List.set_cons_succ, List.set_cons_zero, opS_len, effR, ty_slice62, List.getElem?_cons_succ, ls_len, hml, ofConst, Value.oneCell', if_true, runS_nil]; (with_reducible refine hK _ ?_); clear hK K)
  refine WpA_forb (G := FiG n) (fun g => ⟨[slM (mat n c f), .one .junk, .raw (.slice none 0 0), .one (.sl 9 0 0 n), .one .junk, .one .junk, .one .junk, .one .junk, .one .junk, .one .junk, .one .junk, .raw (.int .i64 (n : Int)), .raw (.int .i64 (g.i : Int)), .one .junk, .one .junk, .one .junk, .one .junk, .one .junk, .one .junk, .one .junk, .one .junk, .one .junk, .one .junk, .one .junk, .one .junk, .one .junk, .one .junk, .one .junk, .one .junk, .one .junk, .one .junk, .one .junk, .one .junk, .one .junk, .one .junk, .one .junk, .one .junk, .one .junk], Hm [(9, cpO 9 n c f g.i)]⟩) (fun g => n - g.i) ⟨0, by omega⟩ ?_ ?_
  · refine Weak_sub ⟨?_, trivial⟩ ?_
    · show [_] = _
      simp [cpO, spn, mat]
    · simp [wkL, okTV, okAV]
  · rintro ⟨i, hi⟩
    simp only
    by_cases hm : i < n
    · have hrow := mat_get c f hm
      have hmi := mat_len i c f
      have hsl : (spn 9 (List.replicate i c)).length = i := by rw [spn_len, List.length_replicate]
      have hrl : ((mat i c f).map rwO).length = i := by rw [List.length_map, hmi]
      ((first | refine WpA_sreg [] [] (by simp) fun K hK => ?_ | refine WpA_seq (WpA_sreg [] [] (by simp) fun K hK => ?_) | refine WpA_seq (WpA_seq (WpA_sreg [] [] (by simp) fun K hK => ?_))); simp (disch := omega) only [prepL, prep1, slM, Hm, runS_cons, opS_bin, effM, AS.ev, List.getElem?_cons_succ, List.getElem?_cons_zero, evBin, decT, if_true, Option.map_some, AS.put, List.set_cons_succ, List.set_cons_zero, runS_nil]; (with_reducible refine hK _ ?_); clear hK K)
      refine WpA_seq (WpA_cond rfl (fun _ => WpA_skip ?_) (fun h => by simp at h <;> omega))
      refine WpA_seq (WpA_block ?_)
      ((first | refine WpA_sreg [] [] (by simp) fun K hK => ?_ | refine WpA_seq (WpA_sreg [] [] (by simp) fun K hK => ?_) | refine WpA_seq (WpA_seq (WpA_sreg [] [] (by simp) fun K hK => ?_))); simp (disch := omega) only [prepL, prep1, Nat.zero_add, runS_cons, opS_move, AS.ev, List.getElem?_cons_succ, List.getElem?_cons_zero, Option.map_some, AS.put, List.set_cons_succ, List.set_cons_zero, opS_assign, runS_nil]; (with_reducible refine hK _ ?_); clear hK K)
      ((first | refine WpA_sreg [] [] (by simp) fun K hK => ?_ | refine WpA_seq (WpA_sreg [] [] (by simp) fun K hK => ?_) | refine WpA_seq (WpA_seq (WpA_sreg [] [] (by simp) fun K hK => ?_))); simp (disch := omega) only [prepL, prep1, Nat.zero_add, Nat.reduceAdd, runS_cons, opS_move, AS.ev, List.getElem?_cons_zero, Option.map_some, AS.put, List.set_cons_succ, List.set_cons_zero, List.getElem?_cons_succ, opS_indexAddr, effR, natOf_pos, Int.toNat_natCast, ty_slice62, ls_get, hrow, fR, ty_sz120, List.length_cons, List.length_nil, if_true, opS_load, packT, ty_agg120, List.map_cons, List.map_nil, opS_len, ty_slice120, ls_len, rowF_len, ofConst, Value.oneCell', runS_nil]; (with_reducible refine hK _ ?_); clear hK K)
      refine WpA_forb (G := FiG c) (fun g => ⟨[slM (mat n c f), .one .junk, .raw (.slice none 0 0), .one (.sl 9 0 0 n), .raw (.int .i64 (i : Int)), .one .junk, .one .junk, .one .junk, .one .junk, .one .junk, .one .junk, .raw (.int .i64 (n : Int)), .raw (.int .i64 (i : Int)), .one .junk, .one .junk, .one .junk, .one .junk, .one .junk, .one (.p (.sl (ls fZ (rowF c (f i))))), .raw (.int .i64 (c : Int)), .raw (.int .i64 (g.i : Int)), .one .junk, .one .junk, .one .junk, .one .junk, .one .junk, .one .junk, .one .junk, .one .junk, .one .junk, .one .junk, .one .junk, .one .junk, .one .junk, .one .junk, .one .junk, .one .junk, .one .junk], Hm [(9, cpS 9 n c f i g.i)]⟩) (fun g => c - g.i) ⟨0, by omega⟩ ?_ ?_
      · refine Weak_sub ⟨rfl, trivial⟩ ?_
        simp [wkL, okTV, okAV]
      · rintro ⟨j, hj⟩
        simp only
        by_cases hm2 : j < c
        · have hent := rowF_get (f i) hm2
          have hN := norm_C (f i j) (hf i j hm hm2)
          cases j with
          | zero =>
            rw [cpS, cp_open f hm]
            ((first | refine WpA_sreg [] [] (by simp) fun K hK => ?_ | refine WpA_seq (WpA_sreg [] [] (by simp) fun K hK => ?_) | refine WpA_seq (WpA_seq (WpA_sreg [] [] (by simp) fun K hK => ?_))); simp (disch := omega) only [prepL, prep1, slM, Hm, runS_cons, opS_bin, effM, AS.ev, List.getElem?_cons_succ, List.getElem?_cons_zero, evBin, decT, if_true, Option.map_some, AS.put, List.set_cons_succ, List.set_cons_zero, runS_nil]; (with_reducible refine hK _ ?_); clear hK K)
            refine WpA_seq (WpA_cond rfl (fun _ => WpA_skip ?_) (fun h => by simp at h <;> omega))
            refine WpA_seq (WpA_block ?_)
            ((first | refine WpA_sreg [] [] (by simp) fun K hK => ?_ | refine WpA_seq (WpA_sreg [] [] (by simp) fun K hK => ?_) | refine WpA_seq (WpA_seq (WpA_sreg [] [] (by simp) fun K hK => ?_))); simp (disch := omega) only [prepL, prep1, Nat.zero_add, Nat.reduceAdd, runS_cons, opS_indexAddr, effR, AS.ev, List.getElem?_cons_succ, List.getElem?_cons_zero, natOf_pos, Int.toNat_natCast, ty_slice120, ls_get, hent, Option.map_some, fZ, ty_sz51, List.length_cons, List.length_nil, if_true, AS.put, List.set_cons_succ, List.set_cons_zero, opS_load, packT, ty_agg51, List.map_cons, List.map_nil, Nat.le_refl, List.take_succ_cons, List.take_zero, opS_alloc, newS, effA, ty_zero51, Value.oneCell', List.all_cons, List.all_nil, Bool.and_self, true_and, ifT, Nat.reduceEqDiff, if_false, opS_store, wrS, effD, updH, cellsOf, isPure, and_self, putCells, List.nil_append, List.drop_succ_cons, List.drop_zero, List.append_nil, killTV, killAV, Bool.false_eq_true, runS_nil]; (with_reducible refine hK _ ?_); clear hK K)
            ((refine WpA_ldraw mixedA [⟨7, _, _, _, hN⟩] [] (by kernel_rfl) (by simp) fun K hK => ?_); simp (disch := omega) only [tZ, prepL, prep1, Nat.zero_add, Nat.reduceAdd, runS_cons, opS_move, AS.ev, List.getElem?_cons_succ, List.getElem?_cons_zero, Option.map_some, AS.put, List.set_cons_succ, List.set_cons_zero, opS_indexAddr, effR, natOf_pos, Int.toNat_natCast, ty_slice62, updH, Nat.reduceEqDiff, if_true, ifF, if_false, ty_sz120, true_and, ifT, opS_load, mid_get hsl, packT, ty_agg120, List.drop_zero, ty_sz51, ty_agg51, List.length_cons, List.length_nil, Nat.le_refl, List.take_succ_cons, List.take_zero, opS_call, newS, effA, List.find?_cons, beq_self_eq_true, evAll, List.map_cons, norm, List.map_nil, CallRes.plain, List.isEmpty_nil, rawTV, List.all_cons, rawAV, List.all_nil, Bool.and_true, Bool.and_false, normOk, isPure, Bool.and_self, Bool.not_true, noRefTV, noRefAV, Bool.or_true, and_self, renTV, renAV, opS_buildSlice, ty_slice120, ty_zero51, litA, Option.bind_some, cellsOf, Nat.reduceMul, Nat.reduceLeDiff, List.contains_nil, Bool.false_eq_true, unP, opS_append, appS, effD, newsOf, ty_by51, allcons, allnil, and_true, opS_store, wrS, putCells, List.nil_append, List.drop_succ_cons, List.append_nil, mid_set hsl, List.length_map, hmi, List.cons_append, killTV, killAV, Nat.reduceBEq, runS_nil]; (with_reducible refine hK _ ?_); clear hK K)
            show WpA _ _ _ _
            ((refine WpA_lreg [] [] (by simp) fun K hK => ?_); simp (disch := omega) only [prepL, prep1, Nat.zero_add, runS_cons, opS_bin, effM, AS.ev, List.getElem?_cons_succ, List.getElem?_cons_zero, ofConst, Value.oneCell', if_true, evBin, wrapI, Option.map_some, AS.put, List.set_cons_succ, List.set_cons_zero, opS_move, runS_nil]; (with_reducible refine hK _ ?_); clear hK K)
            refine ⟨⟨1, by omega⟩, by simp only; omega, Weak_sub ⟨?_, trivial⟩ ?_⟩
            · rfl
            · simp [wkL, okTV, okAV]
          | succ j =>
            have h01 : (0 == i + 1) = false := by simp
            rw [cpS, cpI]
            ((first | refine WpA_sreg [] [] (by simp) fun K hK => ?_ | refine WpA_seq (WpA_sreg [] [] (by simp) fun K hK => ?_) | refine WpA_seq (WpA_seq (WpA_sreg [] [] (by simp) fun K hK => ?_))); simp (disch := omega) only [prepL, prep1, slM, Hm, runS_cons, opS_bin, effM, AS.ev, List.getElem?_cons_succ, List.getElem?_cons_zero, evBin, decT, if_true, Option.map_some, AS.put, List.set_cons_succ, List.set_cons_zero, runS_nil]; (with_reducible refine hK _ ?_); clear hK K)
            refine WpA_seq (WpA_cond rfl (fun _ => WpA_skip ?_) (fun h => by simp at h <;> omega))
            refine WpA_seq (WpA_block ?_)
            ((first | refine WpA_sreg [] [] (by simp) fun K hK => ?_ | refine WpA_seq (WpA_sreg [] [] (by simp) fun K hK => ?_) | refine WpA_seq (WpA_seq (WpA_sreg [] [] (by simp) fun K hK => ?_))); simp (disch := omega) only [prepL, prep1, Nat.zero_add, Nat.reduceAdd, runS_cons, opS_indexAddr, effR, AS.ev, List.getElem?_cons_succ, List.getElem?_cons_zero, natOf_pos, Int.toNat_natCast, ty_slice120, ls_get, hent, Option.map_some, fZ, ty_sz51, List.length_cons, List.length_nil, if_true, AS.put, List.set_cons_succ, List.set_cons_zero, opS_load, packT, ty_agg51, List.map_cons, List.map_nil, Nat.le_refl, List.take_succ_cons, List.take_zero, opS_alloc, newS, effA, ty_zero51, Value.oneCell', List.all_cons, List.all_nil, Bool.and_self, true_and, ifT, Nat.reduceEqDiff, if_false, opS_store, wrS, effD, updH, cellsOf, isPure, and_self, putCells, List.nil_append, List.drop_succ_cons, List.drop_zero, List.append_nil, killTV, killAV, Bool.false_eq_true, runS_nil]; (with_reducible refine hK _ ?_); clear hK K)
            ((refine WpA_ldraw mixedA [⟨7, _, _, _, hN⟩] [] (by kernel_rfl) (by simp) fun K hK => ?_); simp (disch := omega) only [tZ, prepL, prep1, Nat.zero_add, Nat.reduceAdd, rwO, runS_cons, opS_move, AS.ev, List.getElem?_cons_succ, List.getElem?_cons_zero, Option.map_some, AS.put, List.set_cons_succ, List.set_cons_zero, opS_indexAddr, effR, natOf_pos, Int.toNat_natCast, ty_slice62, updH, Nat.reduceEqDiff, if_true, ifF, if_false, ty_sz120, true_and, ifT, opS_load, mid_get hsl, packT, ty_agg120, List.drop_zero, ty_sz51, ty_agg51, List.length_cons, List.length_nil, Nat.le_refl, List.take_succ_cons, List.take_zero, opS_call, newS, effA, List.find?_cons, beq_self_eq_true, evAll, List.map_cons, norm, List.map_nil, CallRes.plain, List.isEmpty_nil, rawTV, List.all_cons, rawAV, List.all_nil, Bool.and_true, Bool.and_false, normOk, isPure, Bool.and_self, Bool.not_true, noRefTV, noRefAV, Bool.or_true, and_self, renTV, renAV, opS_buildSlice, ty_slice120, ty_zero51, litA, Option.bind_some, cellsOf, Nat.reduceMul, Nat.reduceLeDiff, List.contains_nil, Bool.false_eq_true, unP, opS_append, appS, effD, newsOf, mid_get hrl, ty_by51, lc_allp, lc_len, rowF_len, allcons, allnil, and_true, killO, List.map_append, spn_kill, killAV, List.map_replicate, rwO_kill, lc_kill, lcZ_snoc, mid_set hrl, wrS, killTV, h01, Nat.reduceBEq, opS_store, putCells, List.nil_append, List.drop_succ_cons, List.append_nil, mid_set hsl, reduceCtorEq, false_and, List.length_append, hrl, List.cons_append, runS_nil]; (with_reducible refine hK _ ?_); clear hK K)
            show WpA _ _ _ _
            ((refine WpA_lreg [] [] (by simp) fun K hK => ?_); simp (disch := omega) only [prepL, prep1, Nat.zero_add, runS_cons, opS_bin, effM, AS.ev, List.getElem?_cons_succ, List.getElem?_cons_zero, ofConst, Value.oneCell', if_true, evBin, wrapI, Option.map_some, AS.put, List.set_cons_succ, List.set_cons_zero, opS_move, runS_nil]; (with_reducible refine hK _ ?_); clear hK K)
            refine ⟨⟨j + 1 + 1, by omega⟩, by simp only; omega, Weak_sub ⟨?_, trivial⟩ ?_⟩
            · show _ = cpI 9 n c f i (j + 1)
              rw [cpI, rwO, rowF_snoc (j + 1)]; rfl
            · simp [wkL, okTV, okAV]
        · have hjc : j = c := by omega
          subst hjc
          ((first | refine WpA_sreg [] [] (by simp) fun K hK => ?_ | refine WpA_seq (WpA_sreg [] [] (by simp) fun K hK => ?_) | refine WpA_seq (WpA_seq (WpA_sreg [] [] (by simp) fun K hK => ?_))); simp (disch := omega) only [prepL, prep1, slM, Hm, runS_cons, opS_bin, effM, AS.ev, List.getElem?_cons_succ, List.getElem?_cons_zero, evBin, decF, if_true, Option.map_some, AS.put, List.set_cons_succ, List.set_cons_zero, runS_nil]; (with_reducible refine hK _ ?_); clear hK K)
          refine WpA_seq (WpA_cond rfl (fun h => by simp at h <;> omega) (fun _ => WpA_exit ?_))
          show WpA _ _ _ _
          rw [cp_row f hc1 hm]
          ((refine WpA_lreg [] [] (by simp) fun K hK => ?_); simp (disch := omega) only [prepL, prep1, Nat.zero_add, runS_cons, opS_bin, effM, AS.ev, List.getElem?_cons_succ, List.getElem?_cons_zero, ofConst, Value.oneCell', if_true, evBin, wrapI, Option.map_some, AS.put, List.set_cons_succ, List.set_cons_zero, opS_move, runS_nil]; (with_reducible refine hK _ ?_); clear hK K)
          refine ⟨⟨i + 1, by omega⟩, by simp only; omega, Weak_sub ⟨rfl, trivial⟩ ?_⟩
          simp [wkL, okTV, okAV]
    · have hin : i = n := by omega
      subst hin
      ((first | refine WpA_sreg [] [] (by simp) fun K hK => ?_ | refine WpA_seq (WpA_sreg [] [] (by simp) fun K hK => ?_) | refine WpA_seq (WpA_seq (WpA_sreg [] [] (by simp) fun K hK => ?_))); simp (disch := omega) only [prepL, prep1, slM, Hm, runS_cons, opS_bin, effM, AS.ev, List.getElem?_cons_succ, List.getElem?_cons_zero, evBin, decF, if_true, Option.map_some, AS.put, List.set_cons_succ, List.set_cons_zero, runS_nil]; (with_reducible refine hK _ ?_); clear hK K)
      refine WpA_seq (WpA_cond rfl (fun h => by simp at h <;> omega) (fun _ => WpA_exit ?_))
      show WpA _ _ _ _
      rw [cp_end]
      ((first | refine WpA_sreg [] [] (by simp) fun K hK => ?_ | refine WpA_seq (WpA_sreg [] [] (by simp) fun K hK => ?_) | refine WpA_seq (WpA_seq (WpA_sreg [] [] (by simp) fun K hK => ?_))); simp (disch := omega) only [prepL, prep1, Nat.zero_add, runS_cons, opS_move, AS.ev, List.getElem?_cons_succ, List.getElem?_cons_zero, Option.map_some, AS.put, List.set_cons_succ, List.set_cons_zero, opS_assign, runS_nil]; (with_reducible refine hK _ ?_); clear hK K)
      refine WpA_ret ⟨.inr rfl, _, Weak.refl _, ?_⟩
      refine ⟨.one (.sl 9 0 0 i), 9, ?_, rfl, ?_, rfl⟩
      · simp (disch := omega) only [resA, Tryz.results73, resOne, List.getElem?_cons_succ, List.getElem?_cons_zero]
      · exact (mxF_ren 9 0 _ _ _).symm
end Go.Proofs.YtennjcjjegbhgaaGreat
