/-
  Plain facts about the order of items: by the norm, then lexicographically.
-/
import Derived.Test.YtennjcjjegbhgaaWalkJ
import Derived.Shelf.SlSortCmp.WholeK
namespace Go.Proofs.Ytennjcjjegbhgaa
open Go.RowKit

theorem cmpL_self : ∀ x : List Int, cmpL x x = 0
  | [] => rfl
  | a :: x => by simp [cmpL, cmpL_self x]
theorem cmpL_eq : ∀ {x y : List Int}, cmpL x y = 0 → x = y
  | [], [], _ => rfl
  | [], _ :: _, h => by simp [cmpL] at h
  | _ :: _, [], h => by simp [cmpL] at h
  | a :: x, b :: y, h => by
    unfold cmpL at h
    split at h
    · omega
    · split at h
      · omega
      · rw [cmpL_eq h, show a = b from by omega]
theorem cmpL_range : ∀ (x y : List Int), cmpL x y = -1 ∨ cmpL x y = 0 ∨ cmpL x y = 1
  | [], [] => by simp [cmpL]
  | [], _ :: _ => by simp [cmpL]
  | _ :: _, [] => by simp [cmpL]
  | a :: x, b :: y => by
    have := cmpL_range x y
    unfold cmpL
    split
    · simp
    · split
      · simp
      · exact this
theorem cmpL_anti : ∀ (x y : List Int), cmpL y x = - cmpL x y
  | [], [] => by simp [cmpL]
  | [], _ :: _ => by simp [cmpL]
  | _ :: _, [] => by simp [cmpL]
  | a :: x, b :: y => by
    have := cmpL_anti x y
    unfold cmpL
    by_cases h1 : a < b
    · rw [if_pos h1, if_neg (by omega), if_pos h1]; rfl
    · by_cases h2 : b < a
      · rw [if_pos h2, if_neg h1, if_pos h2]
      · rw [if_neg h2, if_neg h1, if_neg h1, if_neg h2, this]
theorem cmpL_trans : ∀ {x y z : List Int}, cmpL x y < 0 → cmpL y z < 0 → cmpL x z < 0
  | [], [], _, h, _ => by simp [cmpL] at h
  | _ :: _, [], _, h, _ => by simp [cmpL] at h
  | [], _ :: _, [], _, h => by simp [cmpL] at h
  | [], _ :: _, _ :: _, _, _ => by simp [cmpL]
  | _ :: _, _ :: _, [], _, h => by simp [cmpL] at h
  | a :: x, b :: y, c :: z, h1, h2 => by
    unfold cmpL at h1 h2 ⊢
    by_cases p1 : a < b
    · by_cases p2 : b < c
      · rw [if_pos (by omega)]; omega
      · rw [if_neg p2] at h2
        by_cases p3 : c < b
        · rw [if_pos p3] at h2; omega
        · rw [if_pos (by omega)]; omega
    · rw [if_neg p1] at h1
      by_cases p3 : b < a
      · rw [if_pos p3] at h1; omega
      · rw [if_neg p3] at h1
        by_cases p2 : b < c
        · rw [if_pos (by omega)]; omega
        · rw [if_neg p2] at h2
          by_cases p4 : c < b
          · rw [if_pos p4] at h2; omega
          · rw [if_neg p4] at h2
            rw [if_neg (by omega), if_neg (by omega)]
            exact cmpL_trans h1 h2

theorem cmpN_eq (k1 : Int) (x : List Int) (k2 : Int) (y : List Int) : cmpN k1 x k2 y = if k1 < k2 then -1 else if k2 < k1 then 1 else cmpL x y := by
  have hr := cmpL_range x y
  unfold cmpN orL orL orL cmpI
  by_cases h1 : k1 < k2
  · simp [h1]
  · by_cases h2 : k2 < k1
    · simp [h1, h2]
    · simp [h1, h2]
      intro h; exact h.symm
theorem cmpN_lt {k1 k2 : Int} {x y : List Int} : cmpN k1 x k2 y < 0 ↔ k1 < k2 ∨ k1 = k2 ∧ cmpL x y < 0 := by
  rw [cmpN_eq]
  by_cases h1 : k1 < k2
  · rw [if_pos h1]; omega
  · by_cases h2 : k2 < k1
    · rw [if_neg h1, if_pos h2]; omega
    · rw [if_neg h1, if_neg h2]; omega
theorem cmpN_zero {k1 k2 : Int} {x y : List Int} : cmpN k1 x k2 y = 0 ↔ k1 = k2 ∧ x = y := by
  rw [cmpN_eq]
  by_cases h1 : k1 < k2
  · rw [if_pos h1]; omega
  · by_cases h2 : k2 < k1
    · rw [if_neg h1, if_pos h2]; omega
    · rw [if_neg h1, if_neg h2]
      constructor
      · intro h; exact ⟨by omega, cmpL_eq h⟩
      · rintro ⟨_, rfl⟩; exact cmpL_self _

theorem ltIt_iff {α : Type} (f : α → Item) (x y : α) : ltOf (fun a b => cmpIt (f a) (f b)) x y = true ↔ (f x).key < (f y).key ∨ (f x).key = (f y).key ∧ cmpL (f x).vals (f y).vals < 0 := by
  unfold ltOf cmpIt
  rw [decide_eq_true_iff, cmpN_lt]
theorem swoIt {α : Type} (f : α → Item) : Sort.SWO (ltOf fun a b => cmpIt (f a) (f b)) where
  irrefl x := by
    rw [← Bool.not_eq_true, ltIt_iff, cmpL_self]; omega
  trans x y z h1 h2 := by
    rw [ltIt_iff] at *
    rcases h1 with h1 | ⟨h1, h1'⟩ <;> rcases h2 with h2 | ⟨h2, h2'⟩
    · omega
    · omega
    · omega
    · exact .inr ⟨by omega, cmpL_trans h1' h2'⟩
  ntrans x y z h1 h2 := by
    rw [← Bool.not_eq_true, ltIt_iff] at *
    intro h3
    rcases h3 with h3 | ⟨h3, h3'⟩
    · by_cases e1 : (f x).key < (f y).key
      · exact h1 (.inl e1)
      · exact h2 (.inl (by omega))
    · by_cases e1 : (f x).key < (f y).key
      · exact h1 (.inl e1)
      · by_cases e2 : (f y).key < (f z).key
        · exact h2 (.inl e2)
        · have q1 : ¬ cmpL (f x).vals (f y).vals < 0 := fun h => h1 (.inr ⟨by omega, h⟩)
          have q2 : ¬ cmpL (f y).vals (f z).vals < 0 := fun h => h2 (.inr ⟨by omega, h⟩)
          have a1 := cmpL_anti (f x).vals (f y).vals
          have a2 := cmpL_anti (f y).vals (f z).vals
          rcases cmpL_range (f x).vals (f y).vals with r | r | r
          · omega
          · rw [cmpL_eq r] at h3'; exact q2 h3'
          · rcases cmpL_range (f y).vals (f z).vals with s | s | s
            · omega
            · rw [← cmpL_eq s] at h3'; exact q1 h3'
            · have := cmpL_trans (x := (f z).vals) (y := (f y).vals) (z := (f x).vals) (by omega) (by omega)
              have a3 := cmpL_anti (f x).vals (f z).vals
              omega

end Go.Proofs.Ytennjcjjegbhgaa
