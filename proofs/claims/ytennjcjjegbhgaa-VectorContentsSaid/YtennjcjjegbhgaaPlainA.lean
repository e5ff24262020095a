/-
  Plain arithmetic: the products of a reduced form's rows and a vector do not overflow.
-/
import Derived.Test.YtennjcjjegbhgaaWalkE
import Derived.Test.YtennjcjjegbhgaaWalkF
import Derived.Test.YtennjcjjegbhgaaWalkG
namespace Go.Proofs.Ytennjcjjegbhgaa
open Go.RowKit

theorem mul_bd {a b A B : Int} (ha : -A ≤ a ∧ a ≤ A) (hb : -B ≤ b ∧ b ≤ B) (hB : 0 ≤ B) (hA : 0 ≤ A) : -(A * B) ≤ a * b ∧ a * b ≤ A * B := by
  have h1 : a.natAbs ≤ A.toNat := by omega
  have h2 : b.natAbs ≤ B.toNat := by omega
  have h3 : (a * b).natAbs ≤ A.toNat * B.toNat := by rw [Int.natAbs_mul]; exact Nat.mul_le_mul h1 h2
  have h4 : ((A.toNat * B.toNat : Nat) : Int) = A * B := by rw [Int.natCast_mul, Int.toNat_of_nonneg hA, Int.toNat_of_nonneg hB]
  omega

theorem getD_bd {x : List Int} {B : Int} (hB : 0 ≤ B) (h : ∀ (i : Nat) z, x[i]? = some z → -B ≤ z ∧ z ≤ B) (j : Nat) : -B ≤ x.getD j 0 ∧ x.getD j 0 ≤ B := by
  rw [List.getD_eq_getElem?_getD]
  cases hx : x[j]? with
  | none => simp; omega
  | some z => exact h j z hx

theorem accW_exact {row x : List Int} (hr : ∀ (i : Nat) z, row[i]? = some z → -262144 ≤ z ∧ z ≤ 262144) (hx : ∀ (i : Nat) z, x[i]? = some z → -1099511627776 ≤ z ∧ z ≤ 1099511627776) :
    ∀ l : Nat, l ≤ 8 → accW row x l = accZ row x l ∧ -(l * 288230376151711744) ≤ accZ row x l ∧ accZ row x l ≤ l * 288230376151711744
  | 0, _ => ⟨rfl, by simp [accZ], by simp [accZ]⟩
  | l + 1, hl => by
    obtain ⟨h1, h2, h3⟩ := accW_exact hr hx l (by omega)
    have hp := mul_bd (getD_bd (by omega) hr l) (getD_bd (by omega) hx l) (by omega) (by omega)
    have e : (262144 : Int) * 1099511627776 = 288230376151711744 := by decide
    rw [e] at hp
    have hw1 : wrap64 (row.getD l 0 * x.getD l 0) = row.getD l 0 * x.getD l 0 := IntWalk.wrap64_in _ ⟨by omega, by omega⟩
    have hw2 : wrap64 (accZ row x l + row.getD l 0 * x.getD l 0) = accZ row x l + row.getD l 0 * x.getD l 0 := IntWalk.wrap64_in _ ⟨by omega, by omega⟩
    refine ⟨?_, ?_, ?_⟩
    · show wrap64 (accW row x l + wrap64 (row.getD l 0 * x.getD l 0)) = accZ row x l + row.getD l 0 * x.getD l 0
      rw [hw1, h1, hw2]
    · show _ ≤ accZ row x l + row.getD l 0 * x.getD l 0
      omega
    · show accZ row x l + row.getD l 0 * x.getD l 0 ≤ _
      omega

theorem SmallP.row_len {rows : List (List Int)} (h : SmallP rows) {i : Nat} {r : List Int} (hi : rows[i]? = some r) : r.length = rows.length := (show Sq rows from h.2.2.1).at_ hi
theorem SmallP.row_bd {rows : List (List Int)} (h : SmallP rows) {i : Nat} {r : List Int} (hi : rows[i]? = some r) : ∀ (j : Nat) z, r[j]? = some z → -262144 ≤ z ∧ z ≤ 262144 := by
  intro j z hz
  have h1 := (List.getElem?_eq_some_iff.1 hi).1
  have h2 := (List.getElem?_eq_some_iff.1 hz).1
  rw [h.row_len hi] at h2
  have := h.2.2.2 i h1 j h2
  unfold SmallE at this
  rw [ent_of hi hz] at this
  omega

theorem applyM_bd {rows : List (List Int)} {x : List Int} (h : SmallP rows) (hx : InB x = true) : ∀ (i : Nat) z, (applyM rows x)[i]? = some z → -2305843009213693952 ≤ z ∧ z ≤ 2305843009213693952 := by
  intro i z hz
  obtain ⟨row, h1, rfl⟩ := applyM_at hz
  have hl := h.row_len h1
  have h8 := h.2.1
  obtain ⟨e, h2, h3⟩ := accW_exact (h.row_bd h1) (fun i z hz => InB_bounds hx hz) row.length (by omega)
  rw [e]
  have : ((row.length : Nat) : Int) ≤ 8 := by omega
  omega

theorem FitB_iff {n : Nat} {x : List Int} : FitB n x = true ↔ x.length = n ∧ InB x = true := by
  unfold FitB
  rw [Bool.and_eq_true, decide_eq_true_iff]
  exact ⟨fun h => ⟨by omega, h.2⟩, fun h => ⟨by omega, h.2⟩⟩
theorem isReducedM_small {rows : List (List Int)} (h : isReducedM rows = true) : SmallP rows := by
  unfold isReducedM at h
  simp at h
  exact h.1
theorem applyM_length (rows : List (List Int)) (x : List Int) : (applyM rows x).length = rows.length := by simp [applyM]

end Go.Proofs.Ytennjcjjegbhgaa
