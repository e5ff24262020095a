/-
  The walks of the functions that compare lists of int64: cmp.Compare, slices.Compare, vector.Compare, quadformref09.Compare.
-/
import Derived.Test.YtennjcjjegbhgaaMem
namespace Go.Proofs.Ytennjcjjegbhgaa
open Go.RowKit

theorem isNaN_any (a : Int) (w : World) :
    Calls Try.prog 32 #[.int .i64 a] w fun e w' => e = .returned (.bool false) ∧ w = w' := by
  go_enter Try.func32, Try.ntmps32
  go_wp2
  go_ret
  exact ⟨by simp, rfl⟩

def cmpI (a b : Int) : Int := if a < b then -1 else if b < a then 1 else 0
theorem cmpI_bounds (a b : Int) : -1 ≤ cmpI a b ∧ cmpI a b ≤ 1 := by unfold cmpI; (repeat' split) <;> omega

set_option maxHeartbeats 400000 in
theorem cmpCompare_any (a b : Int) (w : World) :
    Calls Try.prog 24 #[.int .i64 a, .int .i64 b] w fun e w' => e = .returned (.int .i64 (cmpI a b)) ∧ w = w' := by
  go_enter Try.func24, Try.ntmps24
  go_wp2_with (go_at_call 32; refine (isNaN_any _ _).mono ?_; rintro e w' ⟨rfl, rfl⟩)
  all_goals
    go_ret
    exact ⟨ret_int (by unfold cmpI; (repeat' split) <;> omega), rfl⟩

/-- The lexicographic order of lists. -/
def cmpL : List Int → List Int → Int
  | [], [] => 0
  | [], _ :: _ => -1
  | _ :: _, [] => 1
  | a :: x, b :: y => if a < b then -1 else if b < a then 1 else cmpL x y

theorem cmpL_drop {x y : List Int} {k : Nat} {a b : Int} (ha : x[k]? = some a) (hb : y[k]? = some b) :
    cmpL (x.drop k) (y.drop k) = if a < b then -1 else if b < a then 1 else cmpL (x.drop (k + 1)) (y.drop (k + 1)) := by
  obtain ⟨h1, rfl⟩ := List.getElem?_eq_some_iff.1 ha
  obtain ⟨h2, rfl⟩ := List.getElem?_eq_some_iff.1 hb
  rw [List.drop_eq_getElem_cons h1, List.drop_eq_getElem_cons h2]
  rfl
theorem cmpL_left {x y : List Int} {k : Nat} (h1 : k ≥ x.length) (h2 : k < y.length) : cmpL (x.drop k) (y.drop k) = -1 := by
  rw [List.drop_of_length_le h1, List.drop_eq_getElem_cons h2]; rfl
theorem cmpL_right {x y : List Int} {k : Nat} (h1 : k < x.length) (h2 : k ≥ y.length) : cmpL (x.drop k) (y.drop k) = 1 := by
  rw [List.drop_of_length_le h2, List.drop_eq_getElem_cons h1]; rfl
theorem cmpL_both {x y : List Int} {k : Nat} (h1 : k ≥ x.length) (h2 : k ≥ y.length) : cmpL (x.drop k) (y.drop k) = 0 := by
  rw [List.drop_of_length_le h1, List.drop_of_length_le h2]; rfl

theorem cmpI_ne {a b : Int} {r : Int} (h : (cmpI a b != 0) = true) : cmpI a b = if a < b then -1 else if b < a then 1 else r := by
  unfold cmpI at *; (repeat' split) <;> simp_all
theorem cmpI_eq {a b : Int} {r : Int} (h : (cmpI a b != 0) = false) : (if a < b then -1 else if b < a then 1 else r) = r := by
  unfold cmpI at *; (repeat' split) <;> simp_all
theorem ne_lt {a b : Int} {r : Int} (h : (a != b) = true) (h' : a < b) : -1 = if a < b then -1 else if b < a then 1 else r := by simp [h']
theorem ne_gt {a b : Int} {r : Int} (h : (a != b) = true) (h' : ¬ a < b) : 1 = if a < b then -1 else if b < a then 1 else r := by
  have : a ≠ b := by simpa using h
  rw [if_neg h', if_pos (by omega)]
theorem eq_next {a b : Int} {r : Int} (h : (a != b) = false) : (if a < b then -1 else if b < a then 1 else r) = r := by
  have : a = b := by simpa using h
  rw [if_neg (by omega), if_neg (by omega)]

set_option maxHeartbeats 400000 in
theorem slicesCompare_any (A B : Option Addr) (c d : Nat) (x y : List Int) (w : World) (hx : RdI .i64 w A x) (hy : RdI .i64 w B y) (lx : x.length ≤ 9223372036854775807) (ly : y.length ≤ 9223372036854775807) :
    Calls Try.prog 14 #[.slice A x.length c, .slice B y.length d] w fun e w' => e = .returned (.int .i64 (cmpL x y)) ∧ w = w' := by
  have HX := Lib.hid hx
  have HY := Lib.hid hy
  clear hx hy
  go_enter Try.func14, Try.ntmps14
  go_wp2_with fail
  go_loop [11, 5, 6, 7, 8] (fun i _ _ _ _ => ∃ k : Nat, k ≤ x.length ∧ i = .int .i64 k ∧ Hid (cmpL (x.drop k) (y.drop k) = cmpL x y)) (fun i _ _ _ _ => x.length - (intOf i).toNat)
  case atStart => exact ⟨0, Nat.zero_le _, rfl, Lib.hid rfl⟩
  case round =>
    obtain ⟨k, hk, rfl, HR⟩ := hrel
    by_cases hlt : k < x.length
    · obtain ⟨a, ha⟩ := getElem?_of_lt hlt
      obtain ⟨b, off, rfl, hc⟩ := HX.out.at_ ha
      have HA := Lib.hid ha
      clear ha
      by_cases hly : k < y.length
      · obtain ⟨a', ha'⟩ := getElem?_of_lt hly
        obtain ⟨b', off', rfl, hc'⟩ := HY.out.at_ ha'
        have HA' := Lib.hid ha'
        clear ha'
        have hD := Lib.hid (cmpL_drop HA.out HA'.out)
        go_wp2_with (go_at_call 24; refine (cmpCompare_any _ _ _).mono ?_; rintro e w' ⟨rfl, rfl⟩)
        · go_ret
          have hne : (cmpI a a' != 0) = true := by assumption
          exact ⟨ret_int (by rw [← HR.out, hD.out]; exact cmpI_ne hne), rfl⟩
        · go_round
          case rel =>
            have he : (cmpI a a' != 0) = false := by assumption
            exact ⟨k + 1, by omega, by go_num, Lib.hid (by rw [← HR.out, hD.out]; exact (cmpI_eq he).symm)⟩
          case measure => simp [intOf]; omega
      · go_wp2_with fail
        go_ret
        exact ⟨ret_int (by rw [← HR.out, cmpL_right hlt (by omega)]), rfl⟩
    · have hk' : k = x.length := by omega
      subst hk'
      go_wp2_with fail
      all_goals
        go_ret
        exact ⟨ret_int (by rw [← HR.out]; first | rw [cmpL_left (by omega) (by omega)] | rw [cmpL_both (by omega) (by omega)]), rfl⟩

/-- quadformref09.Compare -/
theorem refCompare_any (A B : Option Addr) (c d : Nat) (x y : List Int) (w : World) (hx : RdI .i64 w A x) (hy : RdI .i64 w B y) (lx : x.length ≤ 9223372036854775807) (ly : y.length ≤ 9223372036854775807) :
    Calls Try.prog 7 #[.slice A x.length c, .slice B y.length d] w fun e w' => e = .returned (.int .i64 (cmpL x y)) ∧ ∃ n, w' = w.drewN n := by
  have HX := Lib.hid hx
  have HY := Lib.hid hy
  clear hx hy
  go_enter Try.func7, Try.ntmps7
  go_wp2_with fail
  go_loopw [5] (fun i wr => ∃ k n : Nat, k ≤ x.length ∧ k ≤ y.length ∧ i = .int .i64 k ∧ wr = w.drewN n ∧ Hid (cmpL (x.drop k) (y.drop k) = cmpL x y)) (fun i _ => x.length - (intOf i).toNat)
  case atStart => exact ⟨0, 0, Nat.zero_le _, Nat.zero_le _, rfl, rfl, Lib.hid rfl⟩
  case round =>
    obtain ⟨k, n, hk, hky, rfl, rfl, HR⟩ := hrel
    by_cases hlt : k < x.length
    · obtain ⟨a, ha⟩ := getElem?_of_lt hlt
      obtain ⟨b, off, rfl, hc⟩ := HX.out.at_ ha
      have HA := Lib.hid ha
      clear ha
      by_cases hly : k < y.length
      · obtain ⟨a', ha'⟩ := getElem?_of_lt hly
        obtain ⟨b', off', rfl, hc'⟩ := HY.out.at_ ha'
        have HA' := Lib.hid ha'
        clear ha'
        have hD := Lib.hid (cmpL_drop HA.out HA'.out)
        go_wp2_with fail
        go_quiet (fail)
        go_wp2_with fail
        · go_quiet (fail)
          have hne : (a != a') = true := by assumption
          go_wp2_with fail
          all_goals
            go_ret
            exact ⟨ret_int (by rw [← HR.out, hD.out]; first | exact ne_lt hne (by omega) | exact ne_gt hne (by omega)), _, by rw [World.drewN_drewN, World.drewN_drewN]⟩
        · have he : (a != a') = false := by assumption
          go_roundw
          case rel => exact ⟨k + 1, _, by omega, by omega, by go_num, rfl, Lib.hid (by rw [← HR.out, hD.out]; exact (eq_next he).symm)⟩
          case measure => simp [intOf]; omega
      · go_wp2_with fail
        all_goals
          go_ret
          exact ⟨ret_int (by rw [← HR.out, cmpL_right hlt (by omega)]), _, rfl⟩
    · by_cases hly : k < y.length
      · go_wp2_with fail
        all_goals
          go_ret
          exact ⟨ret_int (by rw [← HR.out, cmpL_left (by omega) (by omega)]), _, rfl⟩
      · go_wp2_with fail
        all_goals
          go_ret
          exact ⟨ret_int (by rw [← HR.out, cmpL_both (by omega) (by omega)]), _, rfl⟩

theorem vecCompare_any (A B : Option Addr) (c d : Nat) (x y : List Int) (w : World) (hx : RdI .i64 w A x) (hy : RdI .i64 w B y) (lx : x.length ≤ 9223372036854775807) (ly : y.length ≤ 9223372036854775807) :
    Calls Try.prog 6 #[.slice A x.length c, .slice B y.length d] w fun e w' => e = .returned (.int .i64 (cmpL x y)) ∧ w = w' := by
  go_enter Try.func6, Try.ntmps6
  go_wp2_with (go_at_call 14; refine (slicesCompare_any A B c d x y _ hx hy lx ly).mono ?_; rintro e w' ⟨rfl, rfl⟩)
  go_ret
  exact ⟨rfl, rfl⟩

end Go.Proofs.Ytennjcjjegbhgaa
