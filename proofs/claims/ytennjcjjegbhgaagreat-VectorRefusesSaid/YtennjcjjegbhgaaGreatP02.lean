/-
  Part 3 of a proof (walks and plain facts).
-/
import Derived.Test.YtennjcjjegbhgaaGreatP01
import Derived.StillTailTactics
import Derived.Sort.Grow
import Derived.Deep.DeepFit

namespace Go.Proofs.YtennjcjjegbhgaaGreat
open Go.RowKit

theorem isNaN_any (a : Int) (w : World) :
    Calls Tryz.prog 133 #[.int .i64 a] w fun e w' => e = .returned (.bool false) ∧ w = w' := by
  go_enter Tryz.func133, Tryz.ntmps133
  go_wp2
  go_ret
  exact ⟨by simp, rfl⟩

def cmpI (a b : Int) : Int := if a < b then -1 else if b < a then 1 else 0
theorem cmpI_bounds (a b : Int) : -1 ≤ cmpI a b ∧ cmpI a b ≤ 1 := by unfold cmpI; (repeat' split) <;> omega

set_option maxHeartbeats 400000 in
theorem cmpCompare_any (a b : Int) (w : World) :
    Calls Tryz.prog 95 #[.int .i64 a, .int .i64 b] w fun e w' => e = .returned (.int .i64 (cmpI a b)) ∧ w = w' := by
  go_enter Tryz.func95, Tryz.ntmps95
  go_wp2_with (go_at_call 133; refine (isNaN_any _ _).mono ?_; rintro e w' ⟨rfl, rfl⟩)
  all_goals
    go_ret
    exact ⟨ret_int (by unfold cmpI; (repeat' split) <;> omega), rfl⟩

/-- The lexicographic order of lists. -/
def cmpL : List Int → List Int → Int
  | [], [] => 0
  | [], _ :: _ => -1
  | _ :: _, [] => 1
  | a :: x, b :: y => if a < b then -1 else if b < a then 1 else cmpL x y

theorem cmpL_drop {x y : List Int} {k : Nat} {a b : Int} (ha : x[k]? = some a) (hb : y[k]? = some b) :
    cmpL (x.drop k) (y.drop k) = if a < b then -1 else if b < a then 1 else cmpL (x.drop (k + 1)) (y.drop (k + 1)) := by
  obtain ⟨h1, rfl⟩ := List.getElem?_eq_some_iff.1 ha
  obtain ⟨h2, rfl⟩ := List.getElem?_eq_some_iff.1 hb
  rw [List.drop_eq_getElem_cons h1, List.drop_eq_getElem_cons h2]
  rfl
theorem cmpL_left {x y : List Int} {k : Nat} (h1 : k ≥ x.length) (h2 : k < y.length) : cmpL (x.drop k) (y.drop k) = -1 := by
  rw [List.drop_of_length_le h1, List.drop_eq_getElem_cons h2]; rfl
theorem cmpL_right {x y : List Int} {k : Nat} (h1 : k < x.length) (h2 : k ≥ y.length) : cmpL (x.drop k) (y.drop k) = 1 := by
  rw [List.drop_of_length_le h2, List.drop_eq_getElem_cons h1]; rfl
theorem cmpL_both {x y : List Int} {k : Nat} (h1 : k ≥ x.length) (h2 : k ≥ y.length) : cmpL (x.drop k) (y.drop k) = 0 := by
  rw [List.drop_of_length_le h1, List.drop_of_length_le h2]; rfl

theorem cmpI_ne {a b : Int} {r : Int} (h : (cmpI a b != 0) = true) : cmpI a b = if a < b then -1 else if b < a then 1 else r := by
  unfold cmpI at *; (repeat' split) <;> simp_all
theorem cmpI_eq {a b : Int} {r : Int} (h : (cmpI a b != 0) = false) : (if a < b then -1 else if b < a then 1 else r) = r := by
  unfold cmpI at *; (repeat' split) <;> simp_all
theorem ne_lt {a b : Int} {r : Int} (h : (a != b) = true) (h' : a < b) : -1 = if a < b then -1 else if b < a then 1 else r := by simp [h']
theorem ne_gt {a b : Int} {r : Int} (h : (a != b) = true) (h' : ¬ a < b) : 1 = if a < b then -1 else if b < a then 1 else r := by
  have : a ≠ b := by simpa using h
  rw [if_neg h', if_pos (by omega)]
theorem eq_next {a b : Int} {r : Int} (h : (a != b) = false) : (if a < b then -1 else if b < a then 1 else r) = r := by
  have : a = b := by simpa using h
  rw [if_neg (by omega), if_neg (by omega)]

set_option maxHeartbeats 400000 in
theorem slicesCompare_any (A B : Option Addr) (c d : Nat) (x y : List Int) (w : World) (hx : RdI .i64 w A x) (hy : RdI .i64 w B y) (lx : x.length ≤ 9223372036854775807) (ly : y.length ≤ 9223372036854775807) :
    Calls Tryz.prog 134 #[.slice A x.length c, .slice B y.length d] w fun e w' => e = .returned (.int .i64 (cmpL x y)) ∧ w = w' := by
  have HX := Lib.hid hx
  have HY := Lib.hid hy
  clear hx hy
  go_enter Tryz.func134, Tryz.ntmps134
  go_wp2_with fail
  go_loop [11, 5, 6, 7, 8] (fun i _ _ _ _ => ∃ k : Nat, k ≤ x.length ∧ i = .int .i64 k ∧ Hid (cmpL (x.drop k) (y.drop k) = cmpL x y)) (fun i _ _ _ _ => x.length - (intOf i).toNat)
  case atStart => exact ⟨0, Nat.zero_le _, rfl, Lib.hid rfl⟩
  case round =>
    obtain ⟨k, hk, rfl, HR⟩ := hrel
    by_cases hlt : k < x.length
    · obtain ⟨a, ha⟩ := getElem?_of_lt hlt
      obtain ⟨b, off, rfl, hc⟩ := HX.out.at_ ha
      have HA := Lib.hid ha
      clear ha
      by_cases hly : k < y.length
      · obtain ⟨a', ha'⟩ := getElem?_of_lt hly
        obtain ⟨b', off', rfl, hc'⟩ := HY.out.at_ ha'
        have HA' := Lib.hid ha'
        clear ha'
        have hD := Lib.hid (cmpL_drop HA.out HA'.out)
        go_wp2_with (go_at_call 95; refine (cmpCompare_any _ _ _).mono ?_; rintro e w' ⟨rfl, rfl⟩)
        · go_ret
          have hne : (cmpI a a' != 0) = true := by assumption
          exact ⟨ret_int (by rw [← HR.out, hD.out]; exact cmpI_ne hne), rfl⟩
        · go_round
          case rel =>
            have he : (cmpI a a' != 0) = false := by assumption
            exact ⟨k + 1, by omega, by go_num, Lib.hid (by rw [← HR.out, hD.out]; exact (cmpI_eq he).symm)⟩
          case measure => simp [intOf]; omega
      · go_wp2_with fail
        go_ret
        exact ⟨ret_int (by rw [← HR.out, cmpL_right hlt (by omega)]), rfl⟩
    · have hk' : k = x.length := by omega
      subst hk'
      go_wp2_with fail
      all_goals
        go_ret
        exact ⟨ret_int (by rw [← HR.out]; first | rw [cmpL_left (by omega) (by omega)] | rw [cmpL_both (by omega) (by omega)]), rfl⟩

/-- quadformref09.Compare -/
theorem refCompare_any (A B : Option Addr) (c d : Nat) (x y : List Int) (w : World) (hx : RdI .i64 w A x) (hy : RdI .i64 w B y) (lx : x.length ≤ 9223372036854775807) (ly : y.length ≤ 9223372036854775807) :
    Calls Tryz.prog 26 #[.slice A x.length c, .slice B y.length d] w fun e w' => e = .returned (.int .i64 (cmpL x y)) ∧ ∃ n, w' = w.drewN n := by
  have HX := Lib.hid hx
  have HY := Lib.hid hy
  clear hx hy
  go_enter Tryz.func26, Tryz.ntmps26
  go_wp2_with fail
  go_loopw [5] (fun i wr => ∃ k n : Nat, k ≤ x.length ∧ k ≤ y.length ∧ i = .int .i64 k ∧ wr = w.drewN n ∧ Hid (cmpL (x.drop k) (y.drop k) = cmpL x y)) (fun i _ => x.length - (intOf i).toNat)
  case atStart => exact ⟨0, 0, Nat.zero_le _, Nat.zero_le _, rfl, rfl, Lib.hid rfl⟩
  case round =>
    obtain ⟨k, n, hk, hky, rfl, rfl, HR⟩ := hrel
    by_cases hlt : k < x.length
    · obtain ⟨a, ha⟩ := getElem?_of_lt hlt
      obtain ⟨b, off, rfl, hc⟩ := HX.out.at_ ha
      have HA := Lib.hid ha
      clear ha
      by_cases hly : k < y.length
      · obtain ⟨a', ha'⟩ := getElem?_of_lt hly
        obtain ⟨b', off', rfl, hc'⟩ := HY.out.at_ ha'
        have HA' := Lib.hid ha'
        clear ha'
        have hD := Lib.hid (cmpL_drop HA.out HA'.out)
        go_wp2_with fail
        go_quiet (fail)
        go_wp2_with fail
        · go_quiet (fail)
          have hne : (a != a') = true := by assumption
          go_wp2_with fail
          all_goals
            go_ret
            exact ⟨ret_int (by rw [← HR.out, hD.out]; first | exact ne_lt hne (by omega) | exact ne_gt hne (by omega)), _, by rw [World.drewN_drewN, World.drewN_drewN]⟩
        · have he : (a != a') = false := by assumption
          go_roundw
          case rel => exact ⟨k + 1, _, by omega, by omega, by go_num, rfl, Lib.hid (by rw [← HR.out, hD.out]; exact (eq_next he).symm)⟩
          case measure => simp [intOf]; omega
      · go_wp2_with fail
        all_goals
          go_ret
          exact ⟨ret_int (by rw [← HR.out, cmpL_right hlt (by omega)]), _, rfl⟩
    · by_cases hly : k < y.length
      · go_wp2_with fail
        all_goals
          go_ret
          exact ⟨ret_int (by rw [← HR.out, cmpL_left (by omega) (by omega)]), _, rfl⟩
      · go_wp2_with fail
        all_goals
          go_ret
          exact ⟨ret_int (by rw [← HR.out, cmpL_both (by omega) (by omega)]), _, rfl⟩

theorem vecCompare_any (A B : Option Addr) (c d : Nat) (x y : List Int) (w : World) (hx : RdI .i64 w A x) (hy : RdI .i64 w B y) (lx : x.length ≤ 9223372036854775807) (ly : y.length ≤ 9223372036854775807) :
    Calls Tryz.prog 96 #[.slice A x.length c, .slice B y.length d] w fun e w' => e = .returned (.int .i64 (cmpL x y)) ∧ w = w' := by
  go_enter Tryz.func96, Tryz.ntmps96
  go_wp2_with (go_at_call 134; refine (slicesCompare_any A B c d x y _ hx hy lx ly).mono ?_; rintro e w' ⟨rfl, rfl⟩)
  go_ret
  exact ⟨rfl, rfl⟩

end Go.Proofs.YtennjcjjegbhgaaGreat

/-
  The walks of cmp.Or and vector.compareByNorm.
-/
namespace Go.Proofs.YtennjcjjegbhgaaGreat
open Go.RowKit

/-- The first entry that is not 0. -/
def orL : List Int → Int
  | [] => 0
  | a :: l => if a != 0 then a else orL l
theorem orL_drop {x : List Int} {k : Nat} {a : Int} (h : x[k]? = some a) : orL (x.drop k) = if a != 0 then a else orL (x.drop (k + 1)) := by
  obtain ⟨h1, rfl⟩ := List.getElem?_eq_some_iff.1 h
  rw [List.drop_eq_getElem_cons h1]
  rfl

set_option maxHeartbeats 400000 in
theorem cmpOr_any (A : Option Addr) (c : Nat) (x : List Int) (w : World) (hx : RdI .i64 w A x) (lx : x.length ≤ 9223372036854775807) :
    Calls Tryz.prog 94 #[.slice A x.length c] w fun e w' => e = .returned (.int .i64 (orL x)) ∧ w = w' := by
  have HX := Lib.hid hx
  clear hx
  go_enter Tryz.func94, Tryz.ntmps94
  go_wp2_with fail
  go_loop [8, 5] (fun i _ => ∃ k : Nat, k ≤ x.length ∧ i = .int .i64 k ∧ Hid (orL (x.drop k) = orL x)) (fun i _ => x.length - (intOf i).toNat)
  case atStart => exact ⟨0, Nat.zero_le _, rfl, Lib.hid rfl⟩
  case round =>
    obtain ⟨k, hk, rfl, HR⟩ := hrel
    by_cases hlt : k < x.length
    · obtain ⟨a, ha⟩ := getElem?_of_lt hlt
      obtain ⟨b, off, rfl, hc⟩ := HX.out.at_ ha
      have HA := Lib.hid (orL_drop ha)
      clear ha
      by_cases h0 : (a != 0) = true
      · go_wp2_with fail
        go_ret
        exact ⟨ret_int (by rw [← HR.out, HA.out, if_pos h0]), rfl⟩
      · have h0' : (a != 0) = false := by simpa using h0
        have H0 := Lib.hid h0'
        clear h0
        go_wp2_with fail
        go_round
        case rel => exact ⟨k + 1, by omega, by go_num, Lib.hid (by rw [← HR.out, HA.out, if_neg (by rw [H0.out]; simp)])⟩
        case measure => simp [intOf]; omega
    · go_wp2_with fail
      go_ret
      exact ⟨ret_int (by rw [← HR.out, List.drop_of_length_le (by omega)]; rfl), rfl⟩

theorem cmpCompare_same (a b : Int) (w : World) :
    Calls Tryz.prog 95 #[.int .i64 a, .int .i64 b] w fun e w' => e = .returned (.int .i64 (cmpI a b)) ∧ w' = w :=
  (cmpCompare_any a b w).mono fun _ _ ⟨h1, h2⟩ => ⟨h1, h2.symm⟩
theorem vecCompare_same (A B : Option Addr) (c d : Nat) (x y : List Int) (w : World) (hx : RdI .i64 w A x) (hy : RdI .i64 w B y) (lx : x.length ≤ 9223372036854775807) (ly : y.length ≤ 9223372036854775807) :
    Calls Tryz.prog 96 #[.slice A x.length c, .slice B y.length d] w fun e w' => e = .returned (.int .i64 (cmpL x y)) ∧ w' = w :=
  (vecCompare_any A B c d x y w hx hy lx ly).mono fun _ _ ⟨h1, h2⟩ => ⟨h1, h2.symm⟩

/-- The order of compareByNorm. -/
def cmpN (k1 : Int) (x : List Int) (k2 : Int) (y : List Int) : Int := orL [cmpI k1 k2, cmpL x y]

theorem region_still_tail {P : Program} {id : Nat} {Q : Exit → Act → World → Prop} {a : Act} {w : World} {l : List Oper} (n : Nat) (hm : P.follows .mixedOrders = true) (hB : Region.lexTailB .any l.toArray n = true)
    (h : wpStill P l.toArray w.drew (fun a' => wpList P l.toArray Q (l.drop n) a' w.drew) (l.take n) a) : (Code.region id l.toArray true).wp P Q a w := wp_region_still_tail n hm hB h

theorem grow_alloc (w : World) (os : Array Obj) (o : Obj) : (Sort.grow w os).alloc o = Sort.grow w (os.push o) := by
  unfold Sort.grow World.alloc; simp
theorem grow_two (w : World) (a b : Obj) : ((w.alloc a).alloc b).drew = Sort.grow (w.drewN 1) #[a, b] := by
  unfold Sort.grow
  rw [show (w.drewN 1).heap ++ #[a, b] = (w.heap.push a).push b from by
    show w.heap ++ #[a, b] = _
    apply Array.ext'
    simp]
  rfl
theorem two_boxes (w : World) (a b c d : Value) (t : TypeId) :
    ((w.alloc (.cells #[a, b] t)).alloc (.cells #[c, d] t)).drew.cell? ⟨w.heap.size, 0, none⟩ = some a ∧ ((w.alloc (.cells #[a, b] t)).alloc (.cells #[c, d] t)).drew.cell? ⟨w.heap.size, 1, none⟩ = some b ∧
    ((w.alloc (.cells #[a, b] t)).alloc (.cells #[c, d] t)).drew.cell? ⟨w.heap.size + 1, 0, none⟩ = some c ∧ ((w.alloc (.cells #[a, b] t)).alloc (.cells #[c, d] t)).drew.cell? ⟨w.heap.size + 1, 1, none⟩ = some d ∧
    Ext w ((w.alloc (.cells #[a, b] t)).alloc (.cells #[c, d] t)).drew ∧ ∃ os, ((w.alloc (.cells #[a, b] t)).alloc (.cells #[c, d] t)).drew = Sort.grow (w.drewN 1) os :=
  ⟨by go_simp, by go_simp, by go_simp, by go_simp, (((Ext.refl _).alloc _).alloc _).drew, _, grow_two w _ _⟩

set_option maxRecDepth 100000 in
set_option maxHeartbeats 1000000 in
theorem compareByNorm_any (k1 k2 : Int) (A B : Option Addr) (c d : Nat) (x y : List Int) (w : World) (hx : RdI .i64 w A x) (hy : RdI .i64 w B y) (lx : x.length ≤ 9223372036854775807) (ly : y.length ≤ 9223372036854775807) :
    Calls Tryz.prog 51 #[.agg #[.int .i64 k1, .slice A x.length c], .agg #[.int .i64 k2, .slice B y.length d]] w fun e w' =>
      e = .returned (.int .i64 (cmpN k1 x k2 y)) ∧ ∃ q os, w' = Sort.grow (w.drewN q) os := by
  have HX := Lib.hid hx
  have HY := Lib.hid hy
  clear hx hy
  go_enter Tryz.func51, Tryz.ntmps51
  go_wp2_with fail
  obtain ⟨c1, c2, c3, c4, he, hg⟩ := two_boxes w (.int .i64 k1) (.slice A x.length c) (.int .i64 k2) (.slice B y.length d) 83
  have HE := Lib.hid he
  have HG := Lib.hid hg
  clear he hg
  generalize (w.alloc (.cells #[.int .i64 k1, .slice A x.length c] 83)).alloc (.cells #[.int .i64 k2, .slice B y.length d] 83) = w2 at *
  refine region_still_tail 10 (by kernel_rfl) (by kernel_rfl) ?_
  simp only [List.take_succ_cons, List.take_zero, List.drop_succ_cons, List.drop_zero]
  generalize w2.drew = w3 at *
  iterate 4 still_step
  still_call (cmpCompare_same _ _ _)
  iterate 4 still_step
  still_call (vecCompare_same A B c d x y _ (HX.out.ext HE.out) (HY.out.ext HE.out) lx ly)
  refine wpStill_nil ?_
  have hor := cmpOr_any (some ⟨w3.heap.size, 0, none⟩) 2 [cmpI k1 k2, cmpL x y] (w3.alloc (.cells #[.int .i64 (cmpI k1 k2), .int .i64 (cmpL x y)] 3)) (fun _ => ⟨w3.heap.size, 0, rfl, fun i v hv => by
    match i, hv with
    | 0, hv => simp at hv; subst hv; go_simp
    | 1, hv => simp at hv; subst hv; go_simp⟩) (by simp)
  rw [show [cmpI k1 k2, cmpL x y].length = 2 from rfl] at hor
  have HOR := Lib.hid hor
  clear hor
  go_wp2_with fail
  refine HOR.out.mono ?_
  rintro e w' ⟨rfl, rfl⟩
  go_wp2_with fail
  go_ret
  obtain ⟨os, rfl⟩ := HG.out
  exact ⟨rfl, 1, _, grow_alloc _ _ _⟩

end Go.Proofs.YtennjcjjegbhgaaGreat

/-
  The walks of quadformref01.trim, Make, Normalize, word and Small.
-/
namespace Go.Proofs.YtennjcjjegbhgaaGreat
open Go.RowKit

theorem Tryz.inU32 : (Tryz.prog.info? 92).map (fun i => (i.zero, i.size, i.bytes)) = some (some (.int .u32 0), 1, 4) := by kernel_rfl

theorem takeSnocN {x : List Nat} {k a : Nat} (h : x[k]? = some a) : x.take (k + 1) = x.take k ++ [a] := by
  obtain ⟨h1, rfl⟩ := List.getElem?_eq_some_iff.1 h
  rw [List.take_succ_eq_append_getElem h1]
theorem rd_take {w : World} {A : Option Addr} {xs : List Value} (h : Rd w A xs) (m : Nat) : Rd w A (xs.take m) := fun hne => by
  obtain ⟨b, off, rfl, hc⟩ := h (by rintro rfl; simp at hne)
  refine ⟨b, off, rfl, fun i v hv => hc i v ?_⟩
  rw [List.getElem?_take] at hv
  split at hv
  · exact hv
  · cases hv

set_option maxRecDepth 100000 in
set_option maxHeartbeats 1000000 in
theorem ztrim_any (A : Option Addr) (c : Nat) (l : List Nat) (w : World) (hl : RdU w A l) (hc : l.length ≤ c) (hb : l.length ≤ 1073741824) :
    Calls Tryz.prog 58 #[.slice A l.length c] w fun e w' => ∃ v, e = .returned v ∧ w'.ownsRow w.heap.size 92 1 v (trimL l).length (valU (trimL l)) ∧ Ext w w' := by
  have HL := Lib.hid hl
  clear hl
  go_enter Tryz.func58, Tryz.ntmps58
  go_wp2_with fail
  go_loop [3] (fun i => ∃ k : Nat, k ≤ l.length ∧ i = .int .i64 k ∧ Hid (trimL (l.take k) = trimL l)) (fun i => (intOf i).toNat)
  case atStart => exact ⟨l.length, Nat.le_refl _, rfl, Lib.hid (by rw [List.take_length])⟩
  case round =>
    obtain ⟨k, hk, rfl, HQ⟩ := hrel
    have hend : ∀ (K : Nat), True := fun _ => trivial
    clear hend
    by_cases h0 : 0 < k
    · obtain ⟨a, ha⟩ := getElem?_of_lt (l := l) (k := k - 1) (by omega)
      obtain ⟨b, off, rfl, hcell⟩ := HL.out.at_ ha
      have HT : Hid (l.take k = l.take (k - 1) ++ [a]) := Lib.hid (by have := takeSnocN ha; rw [show k - 1 + 1 = k from by omega] at this; exact this)
      clear ha
      have hk1 : (k : Int) - 1 < (l.length : Int) := by omega
      by_cases ha0 : a = 0
      · have ha0' : ((a : Int) == 0) = true := by simp [ha0]
        have HA0 := Lib.hid ha0
        clear ha0
        go_wp2_with fail
        go_round
        case rel =>
          refine ⟨k - 1, by omega, by first | go_num | (congr 1; omega), Lib.hid ?_⟩
          have := HQ.out
          rw [HT.out, HA0.out, trim_snoc_zero] at this
          exact this
        case measure => simp [intOf]; omega
      · have ha0' : ((a : Int) == 0) = false := by simp [ha0]
        have HF : Hid (trimL l = l.take k) := Lib.hid (by rw [← HQ.out, HT.out, trim_snoc ha0])
        have HLen : Hid ((l.take k).length = k) := Lib.hid (by rw [List.length_take]; omega)
        clear ha0
        go_wp2_with (at_builtin; refine wpList_append_rd _ rfl (.const (.slice none 0 0)) (.tmp 20) _ rfl w.heap.size 92 (.int .u32 0) 1 4 Tryz.underlying49 Tryz.inU32 rfl (by omega) (.slice none 0 0) 0 [] rfl (World.ownsRow_nil _ _ _ _) (some ⟨b, off, none⟩) k c (valU (l.take k)) rfl (by have := rd_take HL.out k; simpa [valU] using this) (by simp [valU]; omega) (oneCellU _) (by simp only [maxLen]; omega) (by omega) (Nat.le_refl _) ?_; intro v1 w1 hown1 hg1 _; have HO1 := Lib.hid hown1; have HE1 := Lib.hid (grown_ext hg1 (World.ownsRow_nil w w.heap.size 92 1) (Ext.refl w) (Nat.le_refl _)); clear hown1 hg1)
        go_ret
        refine ⟨v1, rfl, ?_, HE1.out⟩
        rw [HF.out, HLen.out]
        simpa using HO1.out
    · have hk0 : k = 0 := by omega
      subst hk0
      have HF : Hid (trimL l = []) := Lib.hid (by rw [← HQ.out]; simp [trimL])
      have hd0 : decide ((0 : Int) < ((0 : Nat) : Int)) = false := by simp
      go_wp2_with (at_builtin; refine wpList_append_rd _ rfl (.const (.slice none 0 0)) (.tmp 20) _ rfl w.heap.size 92 (.int .u32 0) 1 4 Tryz.underlying49 Tryz.inU32 rfl (by omega) (.slice none 0 0) 0 [] rfl (World.ownsRow_nil _ _ _ _) A 0 c [] rfl (Rd.nil _ _) rfl (by simp) (by simp only [maxLen]; omega) (by omega) (Nat.le_refl _) ?_; intro v1 w1 hown1 hg1 _; have HO1 := Lib.hid hown1; have HE1 := Lib.hid (grown_ext hg1 (World.ownsRow_nil w w.heap.size 92 1) (Ext.refl w) (Nat.le_refl _)); clear hown1 hg1)
      go_ret
      refine ⟨v1, rfl, ?_, HE1.out⟩
      rw [HF.out]
      exact HO1.out

end Go.Proofs.YtennjcjjegbhgaaGreat

/-
  The walks of quadformref01.Make, Normalize, Neg, Abs, word, Small.
-/
namespace Go.Proofs.YtennjcjjegbhgaaGreat
open Go.RowKit

theorem ztrim_rd (A : Option Addr) (c : Nat) (l : List Nat) (w : World) (hl : RdU w A l) (hc : l.length ≤ c) (hb : l.length ≤ 1073741824) :
    Calls Tryz.prog 58 #[.slice A l.length c] w fun e w' => ∃ B c', e = .returned (.slice B (trimL l).length c') ∧ (trimL l).length ≤ c' ∧ RdU w' B (trimL l) ∧ Ext w w' := by
  refine (ztrim_any A c l w hl hc hb).mono ?_
  rintro e w' ⟨v, rfl, ho, he⟩
  obtain ⟨B, c', rfl, h1, _⟩ := ownsRow_len ho
  exact ⟨B, c', rfl, h1, Rd.of_own ho, he⟩

theorem ztrim_own (A : Option Addr) (c : Nat) (l : List Nat) (w : World) (hl : RdU w A l) (hc : l.length ≤ c) (hb : l.length ≤ 1073741824) :
    Calls Tryz.prog 58 #[.slice A l.length c] w fun e w' => ∃ B c', e = .returned (.slice B (trimL l).length c') ∧ (trimL l).length ≤ c' ∧ w'.ownsRow w.heap.size 92 1 (.slice B (trimL l).length c') (trimL l).length (valU (trimL l)) ∧ Ext w w' := by
  refine (ztrim_any A c l w hl hc hb).mono ?_
  rintro e w' ⟨v, rfl, ho, he⟩
  obtain ⟨B, c', rfl, h1, _⟩ := ownsRow_len ho
  exact ⟨B, c', rfl, h1, ho, he⟩
theorem IntV.mk_ {w : World} {A : Option Addr} {c : Nat} {l : List Nat} {neg neg' : Bool} (hl : Lmb l) (hc : (trimL l).length ≤ c) (hr : RdU w A (trimL l)) (hn : neg' = (neg && decide (0 < (trimL l).length))) :
    IntV w (.agg #[.bool neg', .slice A (trimL l).length c]) (sgn neg (natV l)) (trimL l).length := by
  refine ⟨neg', A, c, trimL l, rfl, hc, hr, trim_lmb hl, trim_can l, ?_, Nat.le_refl _, ?_⟩
  · rw [natV_trim, hn]
    by_cases h0 : 0 < (trimL l).length
    · simp [h0]
    · have e : trimL l = [] := List.length_eq_zero_iff.1 (by omega)
      have e2 := natV_trim l
      rw [e] at e2
      simp [natV] at e2
      rw [← e2]; simp [sgn]
  · intro e; rw [hn, e]; simp
theorem box2 (w : World) (a b : Value) (t : TypeId) : (w.alloc (.cells #[a, b] t)).rowIs w.heap.size t 2 (fun i => if i = 0 then a else b) :=
  World.rowIs_alloc w #[a, b] t _ (fun i hi => by
    match i, hi with
    | 0, _ => rfl
    | 1, _ => rfl)
theorem box2b (w : World) (o : Obj) (a b : Value) (t : TypeId) : ((w.alloc o).alloc (.cells #[a, b] t)).rowIs (w.heap.size + 1) t 2 (fun i => if i = 0 then a else b) := by
  have := box2 (w.alloc o) a b t
  have e : (w.alloc o).heap.size = w.heap.size + 1 := by show (w.heap.push _).size = _; rw [Array.size_push]
  rw [e] at this
  exact this
theorem box2c (w : World) (o o' : Obj) (a b : Value) (t : TypeId) : (((w.alloc o).alloc o').alloc (.cells #[a, b] t)).rowIs (w.heap.size + 1 + 1) t 2 (fun i => if i = 0 then a else b) := by
  have := box2b (w.alloc o) o' a b t
  have e : (w.alloc o).heap.size = w.heap.size + 1 := by show (w.heap.push _).size = _; rw [Array.size_push]
  rw [e] at this
  exact this
theorem rowIs2 {w : World} {b : Nat} {t : TypeId} {x y : Value} (h : w.rowIs b t 2 (fun i => if i = 0 then x else y)) :
    w.cell? ⟨b, 0, none⟩ = some x ∧ w.cell? ⟨b, 1, none⟩ = some y ∧ w.frozen? ⟨b, 0, none⟩ = false ∧ w.frozen? ⟨b, 1, none⟩ = false :=
  ⟨h.cell (by omega), h.cell (i := 1) (by omega), h.frozen 0, h.frozen 1⟩

set_option maxRecDepth 100000 in
set_option maxHeartbeats 1000000 in
theorem zmake_any (neg : Bool) (A : Option Addr) (c : Nat) (l : List Nat) (w : World) (hl : RdU w A l) (hlm : Lmb l) (hc : l.length ≤ c) (hb : l.length ≤ 1073741824) :
    Calls Tryz.prog 59 #[.bool neg, .slice A l.length c] w fun e w' => ∃ v, e = .returned v ∧ IntV w' v (sgn neg (natV l)) (trimL l).length ∧ Ext w w' := by
  have HL := Lib.hid hl
  have HM := Lib.hid hlm
  clear hl hlm
  have HX0 := Lib.hid ((Ext.refl w).alloc (.cells #[.bool false, .slice none 0 0] 51))
  have HTL := Lib.hid (Nat.le_trans (trim_len l) hb)
  have HSZ : Hid (w.heap.size < (w.alloc (.cells #[.bool false, .slice none 0 0] 51)).heap.size) := Lib.hid (by show w.heap.size < (w.heap.push _).size; rw [Array.size_push]; omega)
  cases neg with
  | false =>
    have HS : Hid (false = (false && decide (0 < (trimL l).length))) := Lib.hid rfl
    go_enter Tryz.func59, Tryz.ntmps59
    go_wp2_with (go_at_call 58; refine (ztrim_own A c l _ (HL.out.ext HX0.out) hc hb).mono ?_; rintro e w1 ⟨B, c1, rfl, hc1, ho1, he1⟩; have HO1 := Lib.hid ho1; have HE1 := Lib.hid (HX0.out.trans he1); have HB := Lib.hid (rowIs_ext (box2 w _ _ _) he1); obtain ⟨g0, g1, f0, f1⟩ := rowIs2 HB.out; clear ho1 he1)
    have q0 : (w1.setCell ⟨w.heap.size, 0, none⟩ (.bool false)).cell? ⟨w.heap.size, 0, none⟩ = some (.bool false) := (HB.out.set 0 _).cell (by omega)
    have q1 : ((w1.setCell ⟨w.heap.size, 0, none⟩ (.bool false)).setCell ⟨w.heap.size, 1, none⟩ (.slice B (trimL l).length c1)).cell? ⟨w.heap.size, 1, none⟩ = some (.slice B (trimL l).length c1) := ((HB.out.set 0 _).set 1 _).cell (i := 1) (by omega)
    refine bodyPost_ret (v := .agg #[.bool false, .slice B (trimL l).length c1]) (by simp [results, Tryz.results59, go_sem, q0, q1]) rfl ?_
    exact ⟨_, rfl, IntV.mk_ HM.out hc1 (Rd.of_own (ownsRow_setCell_below (ownsRow_setCell_below HO1.out HSZ.out _) HSZ.out _)) HS.out, (HE1.out.setCell (Nat.le_refl _) _).setCell (Nat.le_refl _) _⟩
  | true =>
    have HS : Hid (decide (0 < (trimL l).length) = (true && decide (0 < (trimL l).length))) := Lib.hid rfl
    go_enter Tryz.func59, Tryz.ntmps59
    go_wp2_with (go_at_call 58; refine (ztrim_own A c l _ (HL.out.ext HX0.out) hc hb).mono ?_; rintro e w1 ⟨B, c1, rfl, hc1, ho1, he1⟩; have HO1 := Lib.hid ho1; have HE1 := Lib.hid (HX0.out.trans he1); have HB := Lib.hid (rowIs_ext (box2 w _ _ _) he1); obtain ⟨g0, g1, f0, f1⟩ := rowIs2 HB.out; clear ho1 he1)
    have q0 : (w1.setCell ⟨w.heap.size, 0, none⟩ (.bool (decide (0 < (trimL l).length)))).cell? ⟨w.heap.size, 0, none⟩ = some (.bool (decide (0 < (trimL l).length))) := (HB.out.set 0 _).cell (by omega)
    have q1 : ((w1.setCell ⟨w.heap.size, 0, none⟩ (.bool (decide (0 < (trimL l).length)))).setCell ⟨w.heap.size, 1, none⟩ (.slice B (trimL l).length c1)).cell? ⟨w.heap.size, 1, none⟩ = some (.slice B (trimL l).length c1) := ((HB.out.set 0 _).set 1 _).cell (i := 1) (by omega)
    refine bodyPost_ret (v := .agg #[.bool (decide (0 < (trimL l).length)), .slice B (trimL l).length c1]) (by simp [results, Tryz.results59, go_sem, q0, q1]) rfl ?_
    exact ⟨_, rfl, IntV.mk_ HM.out hc1 (Rd.of_own (ownsRow_setCell_below (ownsRow_setCell_below HO1.out HSZ.out _) HSZ.out _)) HS.out, (HE1.out.setCell (Nat.le_refl _) _).setCell (Nat.le_refl _) _⟩

/-- A store into a cell that holds no integer leaves the limbs alone. -/
theorem RdU.setBox {w : World} {A : Option Addr} {l : List Nat} (h : RdU w A l) {p : Addr} {u : Value} (hb : w.cell? p = some u) (hu : ∀ m, u ≠ .int .u32 m) (v : Value) : RdU (w.setCell p v) A l := fun hne => by
  obtain ⟨b, off, rfl, hc⟩ := h hne
  refine ⟨b, off, rfl, fun i x hx => ?_⟩
  have h1 := hc i x hx
  have hxi : ∃ m, x = .int .u32 m := by
    have := List.mem_of_getElem? hx
    simp at this
    obtain ⟨a, _, rfl⟩ := this
    exact ⟨_, rfl⟩
  obtain ⟨m, rfl⟩ := hxi
  rw [World.cell?_setCell_other _ _ _ _ (fun e => by subst e; rw [h1] at hb; exact hu m (Option.some.inj hb).symm)]
  exact h1
theorem IntV.setBox {w : World} {x : Value} {z : Int} {k : Nat} (h : IntV w x z k) {p : Addr} {u : Value} (hb : w.cell? p = some u) (hu : ∀ m, u ≠ .int .u32 m) (v : Value) : IntV (w.setCell p v) x z k := by
  obtain ⟨neg, A, c, l, h1, h2, h3, h4⟩ := h
  exact ⟨neg, A, c, l, h1, h2, h3.setBox hb hu v, h4⟩
/-- The result's box, behind the store of a result. -/
theorem boxed {w w1 : World} {b : Nat} {t : TypeId} {x0 : Bool} {x1 : Option Addr} {m c : Nat} {n1 : Bool} {B1 : Option Addr} {m1 c1 : Nat} {y : Value} {z : Int} {k : Nat}
    (hb : w1.rowIs b t 2 (fun i => if i = 0 then .bool x0 else .slice x1 m c)) (hv : IntV w1 y z k) (he : Ext w w1) (hwb : w.heap.size ≤ b) :
    (w1.setCell ⟨b, 0, none⟩ (.bool n1)).cell? ⟨b, 0, none⟩ = some (.bool n1) ∧
    ((w1.setCell ⟨b, 0, none⟩ (.bool n1)).setCell ⟨b, 1, none⟩ (.slice B1 m1 c1)).cell? ⟨b, 1, none⟩ = some (.slice B1 m1 c1) ∧
    IntV ((w1.setCell ⟨b, 0, none⟩ (.bool n1)).setCell ⟨b, 1, none⟩ (.slice B1 m1 c1)) y z k ∧ Ext w ((w1.setCell ⟨b, 0, none⟩ (.bool n1)).setCell ⟨b, 1, none⟩ (.slice B1 m1 c1)) := by
  refine ⟨(hb.set 0 _).cell (by omega), ((hb.set 0 _).set 1 _).cell (i := 1) (by omega), ?_, (he.setCell hwb _).setCell hwb _⟩
  exact (hv.setBox (hb.cell (by omega)) (by intro m; simp) _).setBox ((hb.set 0 _).cell (i := 1) (by omega)) (by intro m; simp) _

end Go.Proofs.YtennjcjjegbhgaaGreat

/-
  The walks of quadformref01.Normalize, Neg, Abs, Sign, word, Small.
-/
namespace Go.Proofs.YtennjcjjegbhgaaGreat
open Go.RowKit

theorem sgn_not (b : Bool) (n : Nat) : sgn (!b) n = - sgn b n := by cases b <;> simp [sgn]
theorem sgn_abs (b : Bool) (n : Nat) : sgn false n = ((sgn b n).natAbs : Int) := by cases b <;> simp [sgn]

set_option maxRecDepth 100000 in
set_option maxHeartbeats 1000000 in
theorem zneg_any (v : Value) (z : Int) (k : Nat) (w : World) (hv : IntV w v z k) (hk : k ≤ 1073741824) :
    Calls Tryz.prog 121 #[v] w fun e w' => ∃ v', e = .returned v' ∧ IntV w' v' (-z) k ∧ Ext w w' := by
  obtain ⟨neg, A, c, l, rfl, hc, hr, hl, hcan, rfl, hlk, hz⟩ := hv
  have HR := Lib.hid hr
  have HLm := Lib.hid hl
  have HK : Hid (sgn (!neg) (natV l) = - sgn neg (natV l)) := Lib.hid (sgn_not _ _)
  have HT := Lib.hid (trim_of_can hcan)
  clear hr hl hcan hz
  go_enter Tryz.func121, Tryz.ntmps121
  go_wp2_with (go_at_call 59; refine (zmake_any (!neg) A c l _ (HR.out.ext (((Ext.refl w).alloc _).alloc _)) HLm.out hc (by omega)).mono ?_; rintro e w1 ⟨v1, rfl, hv1, he1⟩; rw [HT.out, HK.out] at hv1; obtain ⟨n1, B1, c1, l1, rfl, hvr⟩ := hv1; have HV1 := Lib.hid (show IntV w1 (.agg #[.bool n1, .slice B1 l1.length c1]) _ _ from ⟨n1, B1, c1, l1, rfl, hvr⟩); have HB := Lib.hid (rowIs_ext (box2b w _ _ _ _) he1); obtain ⟨g0, g1, f0, f1⟩ := rowIs2 HB.out; have HE1 := Lib.hid (Ext.trans (((Ext.refl w).alloc _).alloc _) he1); clear hvr he1)
  obtain ⟨q0, q1, hv2, he2⟩ := boxed (n1 := n1) (B1 := B1) (m1 := l1.length) (c1 := c1) HB.out (HV1.out.mono hlk) HE1.out (by omega)
  refine bodyPost_ret (v := .agg #[.bool n1, .slice B1 l1.length c1]) (by simp [results, Tryz.results121, go_sem, q0, q1]) rfl ?_
  exact ⟨_, rfl, hv2, he2⟩

set_option maxRecDepth 100000 in
set_option maxHeartbeats 1000000 in
theorem zabs_any (v : Value) (z : Int) (k : Nat) (w : World) (hv : IntV w v z k) (hk : k ≤ 1073741824) :
    Calls Tryz.prog 111 #[v] w fun e w' => ∃ v', e = .returned v' ∧ IntV w' v' z.natAbs k ∧ Ext w w' := by
  obtain ⟨neg, A, c, l, rfl, hc, hr, hl, hcan, rfl, hlk, hz⟩ := hv
  have HR := Lib.hid hr
  have HLm := Lib.hid hl
  have HK : Hid (sgn false (natV l) = ((sgn neg (natV l)).natAbs : Int)) := Lib.hid (sgn_abs _ _)
  have HT := Lib.hid (trim_of_can hcan)
  clear hr hl hcan hz
  go_enter Tryz.func111, Tryz.ntmps111
  go_wp2_with (go_at_call 59; refine (zmake_any false A c l _ (HR.out.ext (((Ext.refl w).alloc _).alloc _)) HLm.out hc (by omega)).mono ?_; rintro e w1 ⟨v1, rfl, hv1, he1⟩; rw [HT.out, HK.out] at hv1; obtain ⟨n1, B1, c1, l1, rfl, hvr⟩ := hv1; have HV1 := Lib.hid (show IntV w1 (.agg #[.bool n1, .slice B1 l1.length c1]) _ _ from ⟨n1, B1, c1, l1, rfl, hvr⟩); have HB := Lib.hid (rowIs_ext (box2b w _ _ _ _) he1); obtain ⟨g0, g1, f0, f1⟩ := rowIs2 HB.out; have HE1 := Lib.hid (Ext.trans (((Ext.refl w).alloc _).alloc _) he1); clear hvr he1)
  obtain ⟨q0, q1, hv2, he2⟩ := boxed (n1 := n1) (B1 := B1) (m1 := l1.length) (c1 := c1) HB.out (HV1.out.mono hlk) HE1.out (by omega)
  refine bodyPost_ret (v := .agg #[.bool n1, .slice B1 l1.length c1]) (by simp [results, Tryz.results111, go_sem, q0, q1]) rfl ?_
  exact ⟨_, rfl, hv2, he2⟩

set_option maxRecDepth 100000 in
set_option maxHeartbeats 1000000 in
theorem znorm_any (v : Value) (z : Int) (k : Nat) (w : World) (hv : IntV w v z k) (hk : k ≤ 1073741824) :
    Calls Tryz.prog 118 #[v] w fun e w' => ∃ v', e = .returned v' ∧ IntV w' v' z k ∧ Ext w w' := by
  obtain ⟨neg, A, c, l, rfl, hc, hr, hl, hcan, rfl, hlk, hz⟩ := hv
  have HR := Lib.hid hr
  have HLm := Lib.hid hl
  have HK : Hid (sgn neg (natV l) = sgn neg (natV l)) := Lib.hid (rfl)
  have HT := Lib.hid (trim_of_can hcan)
  clear hr hl hcan hz
  go_enter Tryz.func118, Tryz.ntmps118
  go_wp2_with (go_at_call 59; refine (zmake_any neg A c l _ (HR.out.ext (((Ext.refl w).alloc _).alloc _)) HLm.out hc (by omega)).mono ?_; rintro e w1 ⟨v1, rfl, hv1, he1⟩; rw [HT.out, HK.out] at hv1; obtain ⟨n1, B1, c1, l1, rfl, hvr⟩ := hv1; have HV1 := Lib.hid (show IntV w1 (.agg #[.bool n1, .slice B1 l1.length c1]) _ _ from ⟨n1, B1, c1, l1, rfl, hvr⟩); have HB := Lib.hid (rowIs_ext (box2b w _ _ _ _) he1); obtain ⟨g0, g1, f0, f1⟩ := rowIs2 HB.out; have HE1 := Lib.hid (Ext.trans (((Ext.refl w).alloc _).alloc _) he1); clear hvr he1)
  obtain ⟨q0, q1, hv2, he2⟩ := boxed (n1 := n1) (B1 := B1) (m1 := l1.length) (c1 := c1) HB.out (HV1.out.mono hlk) HE1.out (by omega)
  refine bodyPost_ret (v := .agg #[.bool n1, .slice B1 l1.length c1]) (by simp [results, Tryz.results118, go_sem, q0, q1]) rfl ?_
  exact ⟨_, rfl, hv2, he2⟩

def sg (z : Int) : Int := if z < 0 then -1 else if z = 0 then 0 else 1

theorem natV_pos {l : List Nat} (h : Can l) (hne : l ≠ []) : 0 < natV l :=
  Nat.lt_of_lt_of_le (Nat.pow_pos (by omega)) (can_ge h hne)

set_option maxRecDepth 100000 in
set_option maxHeartbeats 1000000 in
theorem zsign_any (v : Value) (z : Int) (k : Nat) (w : World) (hv : IntV w v z k) (hk : k ≤ 1073741824) :
    Calls Tryz.prog 56 #[v] w fun e w' => e = .returned (.int .i64 (sg z)) ∧ Ext w w' := by
  obtain ⟨neg, A, c, l, rfl, hc, hr, hl, hcan, rfl, hlk, hz⟩ := hv
  have HC := Lib.hid (ztrim_rd A c l _ (hr.ext ((Ext.refl w).alloc (.cells #[.bool neg, .slice A l.length c] 51))) hc (by omega))
  rw [trim_of_can hcan] at HC
  have HCan := Lib.hid hcan
  have HZ := Lib.hid hz
  clear hr hl hcan hz
  by_cases h0 : l = []
  · have HS : Hid (sg (sgn neg (natV l)) = 0) := Lib.hid (by subst h0; cases neg <;> simp [sg, sgn, natV])
    have hd : ((l.length : Int) == 0) = true := by simp [h0]
    clear h0
    go_enter Tryz.func56, Tryz.ntmps56
    go_wp2_with (go_at_call 58; refine HC.out.mono ?_; rintro e w1 ⟨B, c1, rfl, hc1, hr1, he1⟩; have HE1 := Lib.hid (Ext.trans ((Ext.refl w).alloc _) he1); have HB := Lib.hid (rowIs_ext (box2 w _ _ _) he1); obtain ⟨g0, g1, f0, f1⟩ := rowIs2 HB.out; clear he1 hr1)
    go_ret
    exact ⟨by rw [HS.out]; rfl, HE1.out⟩
  · have hd : ((l.length : Int) == 0) = false := by simp [h0]
    have HP := Lib.hid (natV_pos HCan.out h0)
    clear h0
    cases neg with
    | false =>
      have HS : Hid (sg (sgn false (natV l)) = 1) := Lib.hid (by have := HP.out; unfold sg sgn; simp; omega)
      go_enter Tryz.func56, Tryz.ntmps56
      go_wp2_with (go_at_call 58; refine HC.out.mono ?_; rintro e w1 ⟨B, c1, rfl, hc1, hr1, he1⟩; have HE1 := Lib.hid (Ext.trans ((Ext.refl w).alloc _) he1); have HB := Lib.hid (rowIs_ext (box2 w _ _ _) he1); obtain ⟨g0, g1, f0, f1⟩ := rowIs2 HB.out; clear he1 hr1)
      go_ret
      exact ⟨by rw [HS.out]; rfl, HE1.out⟩
    | true =>
      have HS : Hid (sg (sgn true (natV l)) = -1) := Lib.hid (by have := HP.out; unfold sg sgn; rw [if_pos rfl, if_pos (by omega)])
      go_enter Tryz.func56, Tryz.ntmps56
      go_wp2_with (go_at_call 58; refine HC.out.mono ?_; rintro e w1 ⟨B, c1, rfl, hc1, hr1, he1⟩; have HE1 := Lib.hid (Ext.trans ((Ext.refl w).alloc _) he1); have HB := Lib.hid (rowIs_ext (box2 w _ _ _) he1); obtain ⟨g0, g1, f0, f1⟩ := rowIs2 HB.out; clear he1 hr1)
      go_ret
      exact ⟨by rw [HS.out]; rfl, HE1.out⟩

theorem two_limbs (u : Nat) : natV [u % 4294967296, u / 4294967296] = u := by simp [natV]; omega

set_option maxRecDepth 100000 in
set_option maxHeartbeats 1000000 in
theorem zword_any (neg : Bool) (u : Nat) (w : World) (hu : u < 18446744073709551616) :
    Calls Tryz.prog 60 #[.bool neg, .int .u64 u] w fun e w' => ∃ v, e = .returned v ∧ IntV w' v (sgn neg u) 2 ∧ Ext w w' := by
  have HLm : Hid (Lmb [u % 4294967296, u / 4294967296]) := Lib.hid (by intro a ha; simp at ha; omega)
  have HRow := Lib.hid (box2b w (.cells #[.bool false, .slice none 0 0] 51) (.int .u32 ((u : Int) % 4294967296)) (.int .u32 ((u : Int) / 4294967296)) 92)
  have HRd := Lib.hid (show RdU _ _ [u % 4294967296, u / 4294967296] from RdI.of_row (k := .u32) HRow.out (zs := [((u % 4294967296 : Nat) : Int), ((u / 4294967296 : Nat) : Int)]) (by simp) (fun i z hz => by
    match i, hz with
    | 0, hz => simp at hz; subst hz; simp
    | 1, hz => simp at hz; subst hz; simp))
  have HM := Lib.hid (zmake_any neg _ 2 [u % 4294967296, u / 4294967296] _ HRd.out HLm.out (by simp) (by simp))
  have HL2 : Hid ((trimL [u % 4294967296, u / 4294967296]).length ≤ 2) := Lib.hid (trim_len _)
  go_enter Tryz.func60, Tryz.ntmps60
  go_wp2_with (go_at_call 59; refine HM.out.mono ?_; rintro e w1 ⟨v1, rfl, hv1, he1⟩; rw [two_limbs] at hv1; obtain ⟨n1, B1, c1, l1, rfl, hvr⟩ := hv1; have HV1 := Lib.hid (IntV.mono (show IntV w1 (.agg #[.bool n1, .slice B1 l1.length c1]) _ _ from ⟨n1, B1, c1, l1, rfl, hvr⟩) HL2.out); have HB := Lib.hid (rowIs_ext ((box2 w _ _ _).alloc _) he1); obtain ⟨g0, g1, f0, f1⟩ := rowIs2 HB.out; have HE1 := Lib.hid (Ext.trans (((Ext.refl w).alloc _).alloc _) he1); clear hvr he1)
  obtain ⟨q0, q1, hv2, he2⟩ := boxed (n1 := n1) (B1 := B1) (m1 := l1.length) (c1 := c1) HB.out HV1.out HE1.out (by omega)
  refine bodyPost_ret (v := .agg #[.bool n1, .slice B1 l1.length c1]) (by simp [results, Tryz.results60, go_sem, q0, q1]) rfl ?_
  exact ⟨_, rfl, hv2, he2⟩

set_option maxRecDepth 100000 in
set_option maxHeartbeats 1000000 in
theorem zsmall_any (n : Int) (w : World) (h1 : -9223372036854775808 ≤ n) (h2 : n ≤ 9223372036854775807) :
    Calls Tryz.prog 29 #[.int .i64 n] w fun e w' => ∃ v, e = .returned v ∧ IntV w' v n 2 ∧ Ext w w' := by
  by_cases hn : n < 0
  · have HW : Hid (∀ wr, Calls Tryz.prog 60 #[.bool true, .int .u64 (IntKind.u64.wrap (-IntKind.u64.wrap n))] wr fun e w' => ∃ v, e = .returned v ∧ IntV w' v n 2 ∧ Ext wr w') := Lib.hid (fun wr => by
      have e1 : IntKind.u64.wrap (-IntKind.u64.wrap n) = ((n.natAbs : Nat) : Int) := by
        rw [IntKind.wrap_u64, IntKind.wrap_u64]; omega
      have e2 : sgn true n.natAbs = n := by unfold sgn; simp; omega
      have := zword_any true n.natAbs wr (by omega)
      rw [e2] at this
      rw [e1]; exact this)
    go_enter Tryz.func29, Tryz.ntmps29
    go_wp2_with (go_at_call 60; refine (HW.out _).mono ?_; rintro e w1 ⟨v1, rfl, hv1, he1⟩; obtain ⟨n1, B1, c1, l1, rfl, hvr⟩ := hv1; have HV1 := Lib.hid (show IntV w1 (.agg #[.bool n1, .slice B1 l1.length c1]) _ _ from ⟨n1, B1, c1, l1, rfl, hvr⟩); have HB := Lib.hid (rowIs_ext (box2 w _ _ _) he1); obtain ⟨g0, g1, f0, f1⟩ := rowIs2 HB.out; have HE1 := Lib.hid (Ext.trans ((Ext.refl w).alloc _) he1); clear hvr he1)
    obtain ⟨q0, q1, hv2, he2⟩ := boxed (n1 := n1) (B1 := B1) (m1 := l1.length) (c1 := c1) HB.out HV1.out HE1.out (by omega)
    refine bodyPost_ret (v := .agg #[.bool n1, .slice B1 l1.length c1]) (by simp [results, Tryz.results29, go_sem, q0, q1]) rfl ?_
    exact ⟨_, rfl, hv2, he2⟩
  · have HW : Hid (∀ wr, Calls Tryz.prog 60 #[.bool false, .int .u64 n] wr fun e w' => ∃ v, e = .returned v ∧ IntV w' v n 2 ∧ Ext wr w') := Lib.hid (fun wr => by
      have e1 : n = ((n.natAbs : Nat) : Int) := by omega
      have e2 : sgn false n.natAbs = n := by unfold sgn; simp; omega
      have := zword_any false n.natAbs wr (by omega)
      rw [e2, ← e1] at this
      exact this)
    go_enter Tryz.func29, Tryz.ntmps29
    go_wp2_with (go_at_call 60; refine (HW.out _).mono ?_; rintro e w1 ⟨v1, rfl, hv1, he1⟩; obtain ⟨n1, B1, c1, l1, rfl, hvr⟩ := hv1; have HV1 := Lib.hid (show IntV w1 (.agg #[.bool n1, .slice B1 l1.length c1]) _ _ from ⟨n1, B1, c1, l1, rfl, hvr⟩); have HB := Lib.hid (rowIs_ext (box2 w _ _ _) he1); obtain ⟨g0, g1, f0, f1⟩ := rowIs2 HB.out; have HE1 := Lib.hid (Ext.trans ((Ext.refl w).alloc _) he1); clear hvr he1)
    obtain ⟨q0, q1, hv2, he2⟩ := boxed (n1 := n1) (B1 := B1) (m1 := l1.length) (c1 := c1) HB.out HV1.out HE1.out (by omega)
    refine bodyPost_ret (v := .agg #[.bool n1, .slice B1 l1.length c1]) (by simp [results, Tryz.results29, go_sem, q0, q1]) rfl ?_
    exact ⟨_, rfl, hv2, he2⟩

end Go.Proofs.YtennjcjjegbhgaaGreat

/-
  The walk of quadformref01.cmp.
-/
namespace Go.Proofs.YtennjcjjegbhgaaGreat
open Go.RowKit

def cmpU (a b : Nat) : Int := if a < b then -1 else if a = b then 0 else 1
theorem natV_split {l : List Nat} {k a : Nat} (h : l[k]? = some a) : natV l = natV (l.take k) + 4294967296 ^ k * (a + 4294967296 * natV (l.drop (k + 1))) := by
  have hk := (List.getElem?_eq_some_iff.1 h).1
  conv => lhs; rw [← List.take_append_drop k l]
  rw [natV_append, List.length_take, Nat.min_eq_left (by omega), List.drop_eq_getElem_cons hk, natV, (List.getElem?_eq_some_iff.1 h).2]
theorem lmb_take {l : List Nat} (h : Lmb l) (k : Nat) : Lmb (l.take k) := fun a ha => h a (List.mem_of_mem_take ha)
theorem natV_lt_of {l m : List Nat} {k a b : Nat} (hl : Lmb l) (ha : l[k]? = some a) (hb : m[k]? = some b) (hd : l.drop (k + 1) = m.drop (k + 1)) (hab : a < b) : natV l < natV m := by
  have hk := (List.getElem?_eq_some_iff.1 ha).1
  rw [natV_split ha, natV_split hb, hd]
  have h1 := natV_lt (lmb_take hl k)
  rw [List.length_take, Nat.min_eq_left (by omega)] at h1
  have h2 : 4294967296 ^ k * (a + 1 + 4294967296 * natV (m.drop (k + 1))) ≤ 4294967296 ^ k * (b + 4294967296 * natV (m.drop (k + 1))) := Nat.mul_le_mul_left _ (by omega)
  have e : 4294967296 ^ k * (a + 1 + 4294967296 * natV (m.drop (k + 1))) = 4294967296 ^ k + 4294967296 ^ k * (a + 4294967296 * natV (m.drop (k + 1))) := by grind
  omega
theorem natV_lt_len {l m : List Nat} (hl : Lmb l) (hm : Can m) (h : l.length < m.length) : natV l < natV m := by
  have h1 := natV_lt hl
  have h2 := can_ge hm (by intro e; rw [e] at h; simp at h)
  have h3 : 4294967296 ^ l.length ≤ 4294967296 ^ (m.length - 1) := Nat.pow_le_pow_right (by omega) (by omega)
  omega
theorem cmpU_lt {a b : Nat} (h : a < b) : cmpU a b = -1 := by simp [cmpU, h]
theorem cmpU_gt {a b : Nat} (h : b < a) : cmpU a b = 1 := by unfold cmpU; rw [if_neg (by omega), if_neg (by omega)]
theorem drop_snoc {l m : List Nat} {k a : Nat} (ha : l[k]? = some a) (hb : m[k]? = some a) (hd : l.drop (k + 1) = m.drop (k + 1)) : l.drop k = m.drop k := by
  obtain ⟨h1, rfl⟩ := List.getElem?_eq_some_iff.1 ha
  obtain ⟨h2, h3⟩ := List.getElem?_eq_some_iff.1 hb
  rw [List.drop_eq_getElem_cons h1, List.drop_eq_getElem_cons h2, hd, h3]

set_option maxRecDepth 100000 in
set_option maxHeartbeats 1000000 in
theorem zcmp_any (A B : Option Addr) (c d : Nat) (l m : List Nat) (w : World) (hl : RdU w A l) (hm : RdU w B m) (ll : Lmb l) (lm : Lmb m) (cl : Can l) (cm : Can m) (bl : l.length ≤ 1073741824) (bm : m.length ≤ 1073741824) :
    Calls Tryz.prog 57 #[.slice A l.length c, .slice B m.length d] w fun e w' => e = .returned (.int .i64 (cmpU (natV l) (natV m))) ∧ ∃ n, w' = w.drewN n := by
  have HL := Lib.hid hl
  have HM := Lib.hid hm
  have HLL := Lib.hid ll
  have HLM := Lib.hid lm
  rcases Nat.lt_trichotomy l.length m.length with hlt | heq | hgt
  · have HS := Lib.hid (cmpU_lt (natV_lt_len ll cm hlt))
    have hd1 : ((l.length : Int) == m.length) = false := by simp; omega
    have hd2 : decide ((l.length : Int) < m.length) = true := by simp; omega
    clear hl hm ll lm cl cm
    go_enter Tryz.func57, Tryz.ntmps57
    go_wp2_with fail
    go_ret
    exact ⟨by rw [HS.out]; rfl, 0, rfl⟩
  · have hd1 : ((l.length : Int) == m.length) = true := by simp; omega
    have HEq := Lib.hid heq
    clear hl hm ll lm cl cm heq
    go_enter Tryz.func57, Tryz.ntmps57
    go_wp2_with fail
    go_loopw [5] (fun i wr => ∃ k n : Nat, k ≤ l.length ∧ i = .int .i64 ((k : Int) - 1) ∧ wr = w.drewN n ∧ Hid (l.drop k = m.drop k)) (fun i _ => (intOf i + 1).toNat)
    case atStart => exact ⟨l.length, 0, Nat.le_refl _, rfl, rfl, Lib.hid (by rw [List.drop_length]; rw [HEq.out, List.drop_length])⟩
    case round =>
      obtain ⟨k, n, hk, rfl, rfl, HQ⟩ := hrel
      by_cases h0 : 0 < k
      · obtain ⟨a, ha⟩ := getElem?_of_lt (l := l) (k := k - 1) (by omega)
        obtain ⟨b, hb⟩ := getElem?_of_lt (l := m) (k := k - 1) (by have := HEq.out; omega)
        obtain ⟨b1, off1, rfl, hc1⟩ := HL.out.at_ ha
        obtain ⟨b2, off2, rfl, hc2⟩ := HM.out.at_ hb
        have hk0 : (0 : Int) ≤ (k : Int) - 1 := by omega
        have hk1 : (k : Int) - 1 < (l.length : Int) := by omega
        have hk2 : (k : Int) - 1 < (m.length : Int) := by have := HEq.out; omega
        have hk3 : ((k : Int) - 1).toNat = k - 1 := by omega
        have HA := Lib.hid ha
        have HB := Lib.hid hb
        have HQ' : Hid (l.drop (k - 1 + 1) = m.drop (k - 1 + 1)) := Lib.hid (by rw [show k - 1 + 1 = k by omega]; exact HQ.out)
        clear ha hb
        go_wp2_with fail
        go_quiet (fail)
        go_wp2_with fail
        · go_quiet (fail)
          have hne : ((a : Int) != (b : Int)) = true := by assumption
          have hne' : a ≠ b := by intro e; subst e; simp at hne
          rcases Nat.lt_or_ge a b with hab | hab
          · have HS := Lib.hid (cmpU_lt (natV_lt_of HLL.out HA.out HB.out HQ'.out hab))
            go_wp2_with fail
            go_ret
            exact ⟨by rw [HS.out]; rfl, _, by rw [World.drewN_drewN, World.drewN_drewN]⟩
          · have HS := Lib.hid (cmpU_gt (natV_lt_of HLM.out HB.out HA.out HQ'.out.symm (by omega)))
            have hng : ¬ a < b := by omega
            go_wp2_with fail
            go_ret
            exact ⟨by rw [HS.out]; rfl, _, by rw [World.drewN_drewN, World.drewN_drewN]⟩
        · have he : ((a : Int) != (b : Int)) = false := by assumption
          have he' : a = b := by simp at he; omega
          go_roundw
          case rel => exact ⟨k - 1, _, by omega, by first | go_num | (congr 1; omega), rfl, Lib.hid (drop_snoc HA.out (he' ▸ HB.out) HQ'.out)⟩
          case measure => simp [intOf]; omega
      · have hk0 : k = 0 := by omega
        subst hk0
        have HS : Hid (cmpU (natV l) (natV m) = 0) := Lib.hid (by have := HQ.out; simp at this; subst this; simp [cmpU])
        go_wp2_with fail
        go_ret
        exact ⟨by rw [HS.out]; rfl, _, rfl⟩
  · have HS := Lib.hid (cmpU_gt (natV_lt_len lm cl hgt))
    have hd1 : ((l.length : Int) == m.length) = false := by simp; omega
    have hd2 : decide ((l.length : Int) < m.length) = false := by simp; omega
    have hng : ¬ l.length < m.length := by omega
    clear hl hm ll lm cl cm
    go_enter Tryz.func57, Tryz.ntmps57
    go_wp2_with fail
    go_ret
    exact ⟨by rw [HS.out]; rfl, 0, rfl⟩

end Go.Proofs.YtennjcjjegbhgaaGreat

/-
  quadformref01.trim and Make over the abstract machine.
-/
namespace Go.Proofs.YtennjcjjegbhgaaGreat
open Go.RowKit

abbrev slU (l : List Nat) : TV := .one (.p (.sl (ls fU l)))

set_option maxRecDepth 100000 in
set_option maxHeartbeats 1000000 in
theorem trim_C (l : List Nat) (hb : l.length ≤ 1073741824) : CallC Tryz.prog 58 [slU l] ⟨[], slU (trimL l)⟩ := by
  refine callC_of Tryz.func58 rfl (by kernel_rfl) ?_; rw [Tryz.ntmps58]
  ((first | refine WpA_sreg [] [] (by simp) fun K hK => ?_ | refine WpA_seq (WpA_sreg [] [] (by simp) fun K hK => ?_) | refine WpA_seq (WpA_seq (WpA_sreg [] [] (by simp) fun K hK => ?_))); simp (disch := omega) only [prepL, prep1, List.length_cons, List.length_nil, Nat.zero_add, List.replicate, List.cons_append, List.nil_append, runS_cons, opS_assign, AS.ev, ofConst, Value.oneCell', if_true, Option.map_some, AS.put, List.set_cons_succ, List.set_cons_zero, runS_nil]; (with_reducible refine hK _ ?_); clear hK K)
  ((first | refine WpA_sreg [] [] (by simp) fun K hK => ?_ | refine WpA_seq (WpA_sreg [] [] (by simp) fun K hK => ?_) | refine WpA_seq (WpA_seq (WpA_sreg [] [] (by simp) fun K hK => ?_))); simp (disch := omega) only [prepL, prep1, Nat.zero_add, Nat.reduceAdd, runS_cons, opS_move, AS.ev, List.getElem?_cons_zero, Option.map_some, AS.put, List.set_cons_succ, List.set_cons_zero, opS_len, effR, ty_slice49, List.getElem?_cons_succ, ls_len, opS_assign, runS_nil]; (with_reducible refine hK _ ?_); clear hK K)
  refine WpA_for (G := {n : Nat // n ≤ l.length ∧ trimL l = trimL (l.take n)}) (fun n => ⟨[slU l, .one .junk, .raw (.slice none 0 0), .raw (.int .i64 n.1), .one .junk, .one .junk, .one .junk, .one .junk, .one .junk, .one .junk, .one .junk, .one .junk, .one .junk, .one .junk, .one .junk, .one .junk, .one .junk, .one .junk, .one .junk, .one .junk, .one .junk, .one .junk], Hm []⟩) (fun n => n.1) ⟨l.length, Nat.le_refl _, by simp⟩ ?_ ?_
  · refine Weak_sub trivial ?_
    simp [wkL, okTV, okAV]
  · rintro ⟨n, hn, hT⟩
    simp only
    by_cases h0 : 0 < n
    · obtain ⟨a, ha⟩ := getElem?_of_lt (l := l) (k := n - 1) (by omega)
      have e1 : ((n : Int) - 1).toNat = n - 1 := by omega
      ((first | refine WpA_sreg [] [] (by simp) fun K hK => ?_ | refine WpA_seq (WpA_sreg [] [] (by simp) fun K hK => ?_) | refine WpA_seq (WpA_seq (WpA_sreg [] [] (by simp) fun K hK => ?_))); simp (disch := omega) only [prepL, prep1, Nat.zero_add, Nat.reduceAdd, List.getElem?_toArray, List.getElem?_cons_succ, List.getElem?_cons_zero, Option.bind_some, Hm, runS_cons, opS_move, AS.ev, Option.map_some, AS.put, List.set_cons_succ, List.set_cons_zero, opS_bin, effM, ofConst, Value.oneCell', if_true, evBin, decT, stS_guard, ifT, wrapI, opS_indexAddr, effR, natOf_pos, e1, ty_slice49, ls_get, ha, fU, ty_sz92, List.length_cons, List.length_nil, opS_load, packT, ty_agg92, List.map_cons, List.map_nil, opS_pick, runS_nil]; (with_reducible refine hK _ ?_); clear hK K)
      have htk : l.take n = l.take (n - 1) ++ [a] := by
        have := List.take_succ_eq_append_getElem (i := n - 1) (l := l) (by omega)
        rw [show n - 1 + 1 = n by omega] at this
        rw [this, (List.getElem?_eq_some_iff.1 ha).2]
      refine WpA_cond rfl (fun hz => WpA_skip ?_) (fun hz => WpA_exit ?_)
      · have hz' : a = 0 := by simpa using hz
        refine WpA_block ?_
        ((refine WpA_lreg [] [] (by simp) fun K hK => ?_); simp (disch := omega) only [prepL, prep1, Nat.zero_add, Nat.reduceAdd, decT, runS_cons, opS_move, AS.ev, List.getElem?_cons_succ, List.getElem?_cons_zero, Option.map_some, AS.put, List.set_cons_succ, List.set_cons_zero, opS_bin, effM, ofConst, Value.oneCell', if_true, evBin, wrapI, opS_assign, runS_nil]; (with_reducible refine hK _ ?_); clear hK K)
        refine ⟨⟨n - 1, by omega, ?_⟩, by simp only; omega, Weak_sub trivial ?_⟩
        · rw [hT, htk, hz', trim_snoc_zero]
        · have e : ((n - 1 : Nat) : Int) = (n : Int) - 1 := by omega
          simp [wkL, okTV, okAV, e]
      · have hz' : a ≠ 0 := by intro e; simp [e] at hz
        have hfin : trimL l = l.take n := by rw [hT, htk, trim_snoc hz']
        show WpA _ _ _ _
        have hlen : (l.take n).length = n := by simp; omega
        ((first | refine WpA_sreg [] [] (by simp) fun K hK => ?_ | refine WpA_seq (WpA_sreg [] [] (by simp) fun K hK => ?_) | refine WpA_seq (WpA_seq (WpA_sreg [] [] (by simp) fun K hK => ?_))); simp (disch := omega) only [prepL, prep1, Nat.zero_add, Nat.reduceAdd, decF, runS_cons, opS_move, AS.ev, List.getElem?_cons_zero, Option.map_some, AS.put, List.set_cons_succ, List.set_cons_zero, List.getElem?_cons_succ, opS_slice, effR, ty_slice49, bound, natOf_pos, Int.toNat_natCast, ty_sz92, Nat.zero_le, ls_len, ls_all fU_len, and_true, true_and, ls_take, List.drop_zero, ifT, opS_append, appS, effD, ofConst, Value.oneCell', if_true, Option.bind_some, newsOf, ls_own, newS, effA, ty_zero92, ty_by92, lc_len, hlen, List.length_cons, List.length_nil, lc_all fU_len, opS_assign, runS_nil]; (with_reducible refine hK _ ?_); clear hK K)
        refine WpA_ret ⟨.inr rfl, ret_fz 21 (fzOk_one rfl) ?_ rfl⟩
        simp (disch := omega) only [resA, Tryz.results58, resOne, List.map_cons, fzTV, fzAV, updH, ifT, List.getElem?_cons_zero, Nat.zero_add, lc_take, List.drop_zero, lc_cellF, if_true, List.map_nil, List.getElem?_cons_succ, hfin]
        simp [List.take_take]
    · have hn0 : n = 0 := by omega
      subst hn0
      have hfin : trimL l = [] := by rw [hT]; simp [trimL]
      ((first | refine WpA_sreg [] [] (by simp) fun K hK => ?_ | refine WpA_seq (WpA_sreg [] [] (by simp) fun K hK => ?_) | refine WpA_seq (WpA_seq (WpA_sreg [] [] (by simp) fun K hK => ?_))); simp (disch := omega) only [prepL, prep1, Nat.zero_add, Nat.reduceAdd, List.getElem?_toArray, List.getElem?_cons_succ, List.getElem?_cons_zero, Option.bind_some, Hm, runS_cons, opS_move, AS.ev, Option.map_some, AS.put, List.set_cons_succ, List.set_cons_zero, opS_bin, effM, ofConst, Value.oneCell', if_true, evBin, decF, stS_guard, Bool.false_eq_true, if_false, Option.map_none, opS_indexAddr, effR, opS_load, opS_pick, runS_nil]; (with_reducible refine hK _ ?_); clear hK K)
      refine WpA_cond rfl (fun hz => by cases hz) (fun hz => WpA_exit ?_)
      show WpA _ _ _ _
      ((first | refine WpA_sreg [] [] (by simp) fun K hK => ?_ | refine WpA_seq (WpA_sreg [] [] (by simp) fun K hK => ?_) | refine WpA_seq (WpA_seq (WpA_sreg [] [] (by simp) fun K hK => ?_))); simp (disch := omega) only [prepL, prep1, Nat.zero_add, Nat.reduceAdd, runS_cons, opS_move, AS.ev, List.getElem?_cons_zero, Option.map_some, AS.put, List.set_cons_succ, List.set_cons_zero, List.getElem?_cons_succ, opS_slice, effR, ty_slice49, bound, natOf_pos, Int.toNat_natCast, ty_sz92, Nat.le_refl, ls_len, Nat.zero_le, ls_all fU_len, and_self, List.take_zero, List.drop_zero, if_true, opS_append, appS, effD, ofConst, Value.oneCell', Option.bind_some, newsOf, List.map_nil, newS, effA, ty_zero92, ty_by92, List.length_nil, Nat.reduceMul, List.length_cons, allnil, and_true, true_and, ifT, opS_assign, runS_nil]; (with_reducible refine hK _ ?_); clear hK K)
      refine WpA_ret ⟨.inr rfl, ret_fz 21 (fzOk_one (f := fU) (l := []) rfl) ?_ rfl⟩
      simp (disch := omega) only [resA, Tryz.results58, resOne, List.map_cons, fzTV, fzAV, updH, ifT, List.getElem?_cons_zero, Nat.add_zero, List.take_zero, List.drop_zero, List.map_nil, if_true, List.getElem?_cons_succ, hfin]
      simp [ls]
end Go.Proofs.YtennjcjjegbhgaaGreat

/-
  The abstract machine: own slices that slots name are alive, and stay so.
-/
namespace Go.Proofs.YtennjcjjegbhgaaGreat
open Go.RowKit

def liveAV (H : OH) : AV → Prop
  | .sl a _ _ _ => H a ≠ []
  | .ptr a _ _ _ => H a ≠ []
  | _ => True
def liveTV (H : OH) : TV → Prop
  | .one x => liveAV H x
  | .agg cs => ∀ x ∈ cs, liveAV H x
  | .tup ts => ∀ t ∈ ts, ∀ x ∈ t.2, liveAV H x
def Live (s : AS) : Prop := (∀ (t : Nat) x, s.tmps[t]? = some x → liveTV s.H x) ∧ ∀ a, ∀ o ∈ s.H a, selfO a o

section
variable {P : Program} {s s' : AS} {H : OH}

theorem live_of_rel {w0 w : World} {O X : Nat → Prop} {a : Act} (h : Rel w0 O X s a w) : Live s := by
  obtain ⟨_, _, ρ, hinv, htm⟩ := h
  have av : ∀ x v, AV.rel ρ s.H (Xo X ρ s.H) w x v → liveAV s.H x := fun x v hx => by
    cases x with
    | p x => trivial
    | sl a r off len => obtain ⟨o, h1, _⟩ := hx; intro h0; rw [h0] at h1; simp at h1
    | ptr a r i j => obtain ⟨o, _, _, h1, _⟩ := hx; intro h0; rw [h0] at h1; simp at h1
    | junk => trivial
  have agg : ∀ cs v, aggRel ρ s.H (Xo X ρ s.H) w cs v → ∀ x ∈ cs, liveAV s.H x := fun cs v hc x hx => by
    obtain ⟨vs, _, _, h3⟩ := hc
    obtain ⟨k, hk, rfl⟩ := List.getElem_of_mem hx
    obtain ⟨u, _, _, h4⟩ := h3 k _ (List.getElem?_eq_getElem hk)
    exact av _ _ h4
  refine ⟨fun t x hx => ?_, fun a o ho => ?_⟩
  · obtain ⟨v, _, hv⟩ := htm t x hx
    cases x with
    | one x => exact av x v hv
    | agg cs => exact agg cs v hv
    | tup ts =>
      obtain ⟨vs, _, _, h3⟩ := hv
      intro t ht x hx
      obtain ⟨k, hk, rfl⟩ := List.getElem_of_mem ht
      obtain ⟨u, _, h4⟩ := h3 k _ _ (List.getElem?_eq_getElem hk)
      rcases h4 with ⟨_, h4⟩ | ⟨_, y, h5, h4⟩
      · exact agg _ _ h4 x hx
      · have h5 : ts[k].2 = [y] := h5
        rw [h5] at hx; simp at hx; subst hx; exact av _ _ h4
  · obtain ⟨k, hk, rfl⟩ := List.getElem_of_mem ho
    exact hinv.self a k _ (List.getElem?_eq_getElem hk)

theorem ev_live (h : Live s) {x : Operand} {t : TV} (hx : s.ev x = some t) : liveTV s.H t := by
  cases x with
  | tmp k => exact h.1 k t hx
  | const v =>
    simp only [AS.ev] at hx
    injection hx with hx
    subst hx
    unfold ofConst
    split
    · split
      · intro y hy; simp only [List.mem_map] at hy; obtain ⟨u, _, rfl⟩ := hy; trivial
      · trivial
    · split <;> trivial
  | global g => simp only [AS.ev] at hx; injection hx with hx; subst hx; trivial
  | func f => simp only [AS.ev] at hx; injection hx with hx; subst hx; trivial

theorem put_live (h : Live s) {d : Option Tmp} {t : TV} (ht : liveTV s.H t) : Live (s.put d t) := by
  refine ⟨fun k x hx => ?_, by rw [put_H]; exact h.2⟩
  rw [put_H]
  cases d with
  | none => exact h.1 k x hx
  | some d =>
    simp only [AS.put] at hx
    by_cases hk : d = k
    · subst hk
      rw [List.getElem?_set] at hx
      simp at hx
      obtain ⟨_, rfl⟩ := hx
      exact ht
    · rw [List.getElem?_set_ne hk] at hx; exact h.1 k x hx

theorem effM_live (h : Live s) {op : Op} {t : TV} (ht : effM P s.ev op = some t) : liveTV s.H t := by
  cases op <;> simp only [effM] at ht <;> try cases ht
  case move x => exact ev_live h ht
  case assign x => exact ev_live h ht
  case pick c a b =>
    split at ht
    · exact ev_live h ht
    · exact ev_live h ht
    · cases ht
  case binOp op ty x y yt =>
    split at ht
    · obtain ⟨v, _, rfl⟩ := Option.map_eq_some_iff.1 ht; trivial
    · cases ht
  case unOp op ty x =>
    split at ht
    · obtain ⟨v, _, rfl⟩ := Option.map_eq_some_iff.1 ht; trivial
    · cases ht
  case convert a b x =>
    split at ht
    · injection ht with ht; subst ht; trivial
    · cases ht
  case extract x k =>
    split at ht
    · rename_i ts hx
      have hl := ev_live h hx
      split at ht
      · rename_i cs hk
        injection ht with ht
        subst ht
        exact hl _ (List.mem_of_getElem? hk)
      · rename_i y hk
        injection ht with ht
        subst ht
        exact hl _ (List.mem_of_getElem? hk) y (by simp)
      · cases ht
    · cases ht

theorem pack_live {t : TypeId} {cs : List AV} {T : TV} (h : packT P t cs = some T) (hc : ∀ x ∈ cs, liveAV H x) : liveTV H T := by
  unfold packT at h
  split at h
  · split at h
    · injection h with h; subst h; exact fun x hx => hc x (List.mem_of_mem_take hx)
    · cases h
  · split at h
    · injection h with h; subst h; exact hc _ (by simp)
    · cases h
  · cases h

theorem cellsOf_live {t : TV} {cs : List AV} (h : cellsOf t = some cs) (ht : liveTV H t) : ∀ x ∈ cs, liveAV H x := by
  unfold cellsOf at h
  split at h
  · injection h with h; subst h; intro x hx; simp at hx; subst hx; trivial
  · injection h with h; subst h; exact ht
  · cases h

theorem fill_live (h : Live s) {pl : List (Nat × Nat)} : ∀ (parts : List (Nat × Operand)) (cs cs' : List AV), fillA pl s.ev cs parts = some cs' → (∀ x ∈ cs, liveAV s.H x) → ∀ x ∈ cs', liveAV s.H x
  | [], cs, cs', hf, hc => by simp only [fillA] at hf; injection hf with hf; subst hf; exact hc
  | (f, x) :: rest, cs, cs', hf, hc => by
    simp only [fillA] at hf
    split at hf
    · rename_i off n ys hp hx
      obtain ⟨t, ht, hys⟩ := Option.bind_eq_some_iff.1 hx
      split at hf
      · refine fill_live h rest _ cs' hf fun y hy => ?_
        simp only [List.mem_append] at hy
        rcases hy with (hy | hy) | hy
        · exact hc y (List.mem_of_mem_take hy)
        · exact cellsOf_live hys (ev_live h ht) y hy
        · exact hc y (List.mem_of_mem_drop hy)
      · cases hf
    · cases hf

theorem self_live (h : Live s) {a r i : Nat} {o : OObj} {e : List AV} (ho : (s.H a)[r]? = some o) (he : o.elems[i]? = some e) : ∀ x ∈ e, liveAV s.H x := fun x hx => by
  have hs := h.2 a o (List.mem_of_getElem? ho) e (List.mem_of_getElem? he) x hx
  have hne : s.H a ≠ [] := by intro h0; rw [h0] at ho; simp at ho
  cases x with
  | sl b _ _ _ => have hs : b = a := hs; subst hs; exact hne
  | ptr b _ _ _ => have hs : b = a := hs; subst hs; exact hne
  | p x => trivial
  | junk => trivial

theorem effR_live (h : Live s) {op : Op} {t : TV} (ht : effR P s.ev s.H op = some t) : liveTV s.H t := by
  cases op
  case load ty x =>
    simp only [effR] at ht
    split at ht
    · exact pack_live ht (fun y hy => by simp only [List.mem_map] at hy; obtain ⟨z, _, rfl⟩ := hy; trivial)
    · split at ht
      · rename_i o ho
        split at ht
        · rename_i e he
          exact pack_live ht (fun y hy => self_live h ho he y (List.mem_of_mem_drop hy))
        · cases ht
      · cases ht
    · cases ht
  case indexAddr ty x ix =>
    simp only [effR] at ht
    split at ht
    · split at ht
      · cases ht
      · split at ht
        · split at ht
          · split at ht
            · injection ht with ht; subst ht; trivial
            · cases ht
          · cases ht
        · rename_i e a r off len hs hx
          split at ht
          · split at ht
            · injection ht with ht; subst ht; have q := ev_live h hx; exact q
            · cases ht
          · cases ht
        · cases ht
    · cases ht
  case fieldAddr ty x f =>
    simp only [effR] at ht
    split at ht
    · split at ht
      · injection ht with ht; subst ht; trivial
      · cases ht
    · rename_i hx
      split at ht
      · injection ht with ht; subst ht; have q := ev_live h hx; exact q
      · cases ht
    · cases ht
  case field ty x f =>
    simp only [effR] at ht
    split at ht
    · rename_i hx
      exact pack_live ht (fun y hy => ev_live h hx y (List.mem_of_mem_drop hy))
    · cases ht
  case slice ty x lo hi mx =>
    cases mx with
    | some _ => simp only [effR] at ht; cases ht
    | none =>
      simp only [effR] at ht
      split at ht
      · split at ht
        · split at ht
          · injection ht with ht; subst ht; trivial
          · cases ht
        · cases ht
      · rename_i hx
        split at ht
        · split at ht
          · injection ht with ht; subst ht; have q := ev_live h hx; exact q
          · split at ht
            · injection ht with ht; subst ht; trivial
            · cases ht
        · cases ht
      · cases ht
  case build ty parts =>
    simp only [effR] at ht
    split at ht
    · split at ht
      · obtain ⟨cs, hcs, rfl⟩ := Option.map_eq_some_iff.1 ht
        exact fill_live h _ _ _ hcs (fun y hy => by simp only [List.mem_map] at hy; obtain ⟨z, _, rfl⟩ := hy; trivial)
      · cases ht
    · cases ht
  case nilCheck x =>
    simp only [effR] at ht
    split at ht
    · injection ht with ht; subst ht; trivial
    · rename_i hx; injection ht with ht; subst ht; have q := ev_live h hx; exact q
    · cases ht
  case call c =>
    obtain ⟨callee, args, argTypes⟩ := c
    cases callee with
    | builtin b =>
      cases b
      case len =>
        simp only [effR] at ht
        split at ht
        · split at ht
          · injection ht with ht; subst ht; trivial
          · injection ht with ht; subst ht; trivial
          · injection ht with ht; subst ht; trivial
          · cases ht
        · cases ht
      all_goals (simp only [effR] at ht; cases ht)
    | value f => simp only [effR] at ht; cases ht
    | invoke r m => simp only [effR] at ht; cases ht
  all_goals (simp only [effR] at ht; cases ht)
end
end Go.Proofs.YtennjcjjegbhgaaGreat

/-
  The abstract machine: an operation looks at its operands alone; what is alive stays alive.
-/
namespace Go.Proofs.YtennjcjjegbhgaaGreat
open Go.RowKit

section
variable {P : Program} {s s' : AS} {H H' : OH}

/-- Families that are there are the same. -/
def Grows (H H' : OH) : Prop := ∀ a, H a ≠ [] → H' a = H a

/-- The families that a value names are the same. -/
def sameAV (H H' : OH) : AV → Prop
  | .sl a _ _ _ => H' a = H a
  | .ptr a _ _ _ => H' a = H a
  | _ => True
def sameTV (H H' : OH) : TV → Prop
  | .one x => sameAV H H' x
  | .agg cs => ∀ x ∈ cs, sameAV H H' x
  | .tup ts => ∀ t ∈ ts, ∀ x ∈ t.2, sameAV H H' x
theorem sameAV_live {x : AV} (h : liveAV H x) (g : Grows H H') : sameAV H H' x := by
  cases x with
  | sl a _ _ _ => exact g a h
  | ptr a _ _ _ => exact g a h
  | p x => trivial
  | junk => trivial
theorem sameTV_live {t : TV} (h : liveTV H t) (g : Grows H H') : sameTV H H' t := by
  cases t with
  | one x => exact sameAV_live h g
  | agg cs => exact fun x hx => sameAV_live (h x hx) g
  | tup ts => exact fun t ht x hx => sameAV_live (h t ht x hx) g
theorem sameAV_refl (x : AV) : sameAV H H x := by cases x <;> first | rfl | trivial
theorem sameTV_refl (t : TV) : sameTV H H t := by
  cases t with
  | one x => exact sameAV_refl x
  | agg cs => exact fun x _ => sameAV_refl x
  | tup ts => exact fun t _ x _ => sameAV_refl x

theorem effM_congr {ev ev' : Operand → Option TV} {op : Op} (h : ∀ x ∈ op.operands, ev x = ev' x) : effM P ev op = effM P ev' op := by
  cases op <;> simp only [Op.operands] at h <;> simp only [effM]
  case move x => exact h x (by simp)
  case assign x => exact h x (by simp)
  case pick c a b => rw [h c (by simp), h a (by simp), h b (by simp)]
  case binOp op t x y t' => rw [h x (by simp), h y (by simp)]
  case unOp op t x => rw [h x (by simp)]
  case convert a b x => rw [h x (by simp)]
  case extract x k => rw [h x (by simp)]

theorem killTV_raw (k : Nat → Nat → Bool) (v : Value) : killTV k (.raw v) = .raw v := rfl

theorem effM_kill (k : Nat → Nat → Bool) {ev : Operand → Option TV} {op : Op} : effM P (fun x => (ev x).map (killTV k)) op = (effM P ev op).map (killTV k) := by
  have key : ∀ (t : TV) v, killTV k t = .one (.p (.raw v)) ↔ t = .one (.p (.raw v)) := fun t v => by
    cases t with
    | one x =>
      cases x with
      | p x => exact Iff.rfl
      | sl a r off len => simp only [killTV, killAV]; split <;> simp
      | ptr a r i j => simp only [killTV, killAV]; split <;> simp
      | junk => simp [killTV, killAV]
    | agg cs => simp [killTV]
    | tup ts => simp [killTV]
  cases op <;> simp only [effM] <;> try rfl
  case pick c a b =>
    cases hc : ev c with
    | none => rfl
    | some t =>
      simp only [Option.map_some]
      by_cases h1 : t = .one (.p (.raw (.bool true)))
      · subst h1; rfl
      · by_cases h2 : t = .one (.p (.raw (.bool false)))
        · subst h2; rfl
        · have e1 : ∀ b, killTV k t ≠ .one (.p (.raw (.bool b))) := fun b he => by
            have := (key t _).1 he
            cases b
            · exact h2 this
            · exact h1 this
          split
          · rename_i he; injection he with he; exact absurd he (e1 _)
          · rename_i he; injection he with he; exact absurd he (e1 _)
          · split
            · rename_i he; injection he with he; exact absurd he h1
            · rename_i he; injection he with he; exact absurd he h2
            · rfl
  case binOp op t x y t' =>
    cases hx : ev x with
    | none => rfl
    | some tx =>
      cases hy : ev y with
      | none =>
        simp only [Option.map_some, Option.map_none]
        split
        · rename_i he; cases he
        · rfl
      | some ty =>
        simp only [Option.map_some]
        by_cases h1 : ∃ a b, tx = .one (.p (.raw a)) ∧ ty = .one (.p (.raw b))
        · obtain ⟨a, b, rfl, rfl⟩ := h1
          simp only [killTV, killAV]
          cases evBin (boolO P t) op a b <;> rfl
        · split
          · rename_i a b ha hb
            injection ha with ha
            injection hb with hb
            exact absurd ⟨a, b, (key _ _).1 ha, (key _ _).1 hb⟩ h1
          · split
            · rename_i a b ha hb
              injection ha with ha
              injection hb with hb
              exact absurd ⟨a, b, ha, hb⟩ h1
            · rfl
  case unOp op t x =>
    cases hx : ev x with
    | none => rfl
    | some tx =>
      simp only [Option.map_some]
      by_cases h1 : ∃ a, tx = .one (.p (.raw a))
      · obtain ⟨a, rfl⟩ := h1
        simp only [killTV, killAV]
        cases evUn op a <;> rfl
      · split
        · rename_i a ha; injection ha with ha; exact absurd ⟨a, (key _ _).1 ha⟩ h1
        · split
          · rename_i a ha; injection ha with ha; exact absurd ⟨a, ha⟩ h1
          · rfl
  case convert a b x =>
    cases hx : ev x with
    | none => rfl
    | some tx =>
      simp only [Option.map_some]
      by_cases h1 : ∃ q n, tx = .one (.p (.raw (.int q n)))
      · obtain ⟨q, n, rfl⟩ := h1
        simp only [killTV, killAV]
        cases P.underlying a with
        | none => rfl
        | some u => cases intO P b <;> rfl
      · split
        · rename_i q n _ _ ha _ _; injection ha with ha; exact absurd ⟨_, _, (key _ _).1 ha⟩ h1
        · split
          · rename_i q n _ _ ha _ _; injection ha with ha; exact absurd ⟨_, _, ha⟩ h1
          · rfl
  case extract x i =>
    cases hx : ev x with
    | none => rfl
    | some tx =>
      cases tx with
      | one y => rfl
      | agg cs => rfl
      | tup ts =>
        simp only [Option.map_some, killTV, List.getElem?_map]
        cases hi : ts[i]? with
        | none => rfl
        | some t =>
          obtain ⟨b, cs⟩ := t
          cases b with
          | true => rfl
          | false =>
            cases cs with
            | nil => rfl
            | cons y l => cases l <;> rfl

theorem bound_congr {ev ev' : Operand → Option TV} {x : Option Operand} {d : Nat} (h : ∀ y, x = some y → ev y = ev' y) : bound ev x d = bound ev' x d := by
  cases x with
  | none => rfl
  | some y => simp only [bound, h y rfl]

theorem fill_congr {pl : List (Nat × Nat)} {ev ev' : Operand → Option TV} : ∀ (parts : List (Nat × Operand)) (cs : List AV), (∀ p ∈ parts, ev p.2 = ev' p.2) → fillA pl ev cs parts = fillA pl ev' cs parts
  | [], cs, _ => rfl
  | (f, x) :: rest, cs, h => by
    simp only [fillA, h (f, x) (by simp)]
    split
    · split
      · exact fill_congr rest _ (fun p hp => h p (by simp [hp]))
      · rfl
    · rfl

theorem lit_congr {n : Nat} {ev ev' : Operand → Option TV} : ∀ (parts : List (Nat × Operand)) (i : Nat), (∀ p ∈ parts, ev p.2 = ev' p.2) → litA ev n i parts = litA ev' n i parts
  | [], i, _ => rfl
  | (f, x) :: rest, i, h => by
    simp only [litA, h (f, x) (by simp), lit_congr rest (i + 1) (fun p hp => h p (by simp [hp]))]

theorem evAll_congr {ev ev' : Operand → Option TV} : ∀ (l : List Operand), (∀ x ∈ l, ev x = ev' x) → evAll ev l = evAll ev' l
  | [], _ => rfl
  | x :: l, h => by simp only [evAll, h x (by simp), evAll_congr l (fun y hy => h y (by simp [hy]))]

/-- Operations that look at memory. -/
theorem effR_congr {ev ev' : Operand → Option TV} {op : Op} (h : ∀ x ∈ op.operands, ev x = ev' x) (hl : ∀ x ∈ op.operands, ∀ t, ev x = some t → sameTV H H' t) : effR P ev H op = effR P ev' H' op := by
  cases op <;> simp only [Op.operands] at h hl <;> try (simp only [effR]; done)
  case load t x =>
    simp only [effR, ← h x (by simp)]
    cases hx : ev x with
    | none => rfl
    | some tx =>
      have := hl x (by simp) tx hx
      cases tx with
      | one y =>
        cases y with
        | ptr a r i j => simp only [show H' a = H a from this]
        | p y => cases y <;> rfl
        | sl a r off len => rfl
        | junk => rfl
      | agg cs => rfl
      | tup ts => rfl
  case indexAddr t x ix =>
    simp only [effR, ← h x (by simp), ← h ix (by simp)]
    cases sliceO P t with
    | none => rfl
    | some e =>
      cases hx : ev x with
      | none => rfl
      | some tx =>
        have := hl x (by simp) tx hx
        cases tx with
        | one y =>
          cases y with
          | sl a r off len => simp only [show H' a = H a from this]
          | p y => cases y <;> rfl
          | ptr a r i j => rfl
          | junk => rfl
        | agg cs => rfl
        | tup ts => rfl
  case fieldAddr t x f => simp only [effR, ← h x (by simp)]
  case field t x f => simp only [effR, ← h x (by simp)]
  case slice t x lo hi mx =>
    cases mx with
    | some m => simp only [effR]
    | none =>
      simp only [effR, ← h x (by simp)]
      have hlo : ∀ d, bound ev lo d = bound ev' lo d := fun d => bound_congr fun y hy => h y (by subst hy; simp)
      have hhi : ∀ d, bound ev hi d = bound ev' hi d := fun d => bound_congr fun y hy => h y (by subst hy; cases lo <;> simp)
      simp only [hlo, hhi]
      cases sliceO P t with
      | none => rfl
      | some e =>
        cases hx : ev x with
        | none => rfl
        | some tx =>
          have := hl x (by simp) tx hx
          cases tx with
          | one y =>
            cases y with
            | sl a r off len => simp only [show H' a = H a from this]
            | p y => cases y <;> rfl
            | ptr a r i j => rfl
            | junk => rfl
          | agg cs => rfl
          | tup ts => rfl
  case build t parts =>
    simp only [effR]
    have : ∀ pl cs, fillA pl ev cs parts.toList = fillA pl ev' cs parts.toList := fun pl cs => fill_congr _ _ (fun p hp => h p.2 (by simp only [List.mem_toArray, List.mem_map]; exact ⟨p, hp, rfl⟩))
    simp only [this]
  case nilCheck x => simp only [effR, ← h x (by simp)]
  case call c =>
    obtain ⟨callee, ⟨args⟩, ⟨argTypes⟩⟩ := c
    cases callee with
    | builtin b =>
      cases b <;> try (simp only [effR]; done)
      simp only [effR]
      simp only [Call.operands] at h
      split
      · rename_i x t
        rw [h x (by simp)]
      · rfl
    | value f => simp only [effR]
    | invoke r m => simp only [effR]
  all_goals rfl

theorem norm_p (x : PV) : norm H' (.one (.p x)) = norm H (.one (.p x)) := by
  have key : ∀ G : OH, norm G (.one (.p x)) = .one (.p x) ∨ (x = .raw (.slice none 0 0) ∧ norm G (.one (.p x)) = .one (.p (.sl []))) := fun G => by
    unfold norm
    split
    · rename_i heq; cases heq
    · rename_i heq; injection heq with heq; injection heq with heq; exact .inr ⟨heq, rfl⟩
    · exact .inl rfl
  by_cases hx : x = .raw (.slice none 0 0)
  · subst hx; rfl
  · rcases key H with h1 | ⟨h1, _⟩
    · rcases key H' with h2 | ⟨h2, _⟩
      · rw [h1, h2]
      · exact absurd h2 hx
    · exact absurd h1 hx
theorem news_p (x : PV) : newsOf H' (.one (.p x)) = newsOf H (.one (.p x)) := by
  unfold newsOf
  split
  · rename_i heq; injection heq with heq; injection heq with heq; subst heq; rfl
  · rename_i heq; injection heq with heq; injection heq with heq; subst heq; rfl
  · rename_i heq; cases heq
  · rfl
theorem norm_grow {t : TV} (hl : sameTV H H' t) : norm H' t = norm H t ∧ ∀ b, normOk b H' t = normOk b H t := by
  cases t with
  | one x =>
    cases x with
    | sl a r off len => exact ⟨by simp only [norm, show H' a = H a from hl], fun b => by simp only [normOk, show H' a = H a from hl]⟩
    | p x => exact ⟨norm_p x, fun b => rfl⟩
    | ptr a r i j => exact ⟨rfl, fun b => rfl⟩
    | junk => exact ⟨rfl, fun b => rfl⟩
  | agg cs => exact ⟨rfl, fun b => rfl⟩
  | tup ts => exact ⟨rfl, fun b => rfl⟩
theorem news_grow {t : TV} (hl : sameTV H H' t) : newsOf H' t = newsOf H t := by
  cases t with
  | one x =>
    cases x with
    | sl a r off len => simp only [newsOf, show H' a = H a from hl]
    | p x => exact news_p x
    | ptr a r i j => rfl
    | junk => rfl
  | agg cs => rfl
  | tup ts => rfl

theorem effA_congr {items : List (Item P)} {ow : List Nat} {i d : Nat} {ev ev' : Operand → Option TV} {op : Op} (h : ∀ x ∈ op.operands, ev x = ev' x) (hl : ∀ x ∈ op.operands, ∀ t, ev x = some t → sameTV H H' t) : effA P items ow i d ev H op = effA P items ow i d ev' H' op := by
  cases op <;> simp only [Op.operands] at h hl <;> try (simp only [effA]; done)
  case box e x => simp only [effA, ← h x (by simp)]
  case makeSlice t l c => simp only [effA, ← h l (by simp), ← h c (by simp)]
  case buildSlice t n parts =>
    simp only [effA]
    have : ∀ n i, litA ev n i parts.toList = litA ev' n i parts.toList := fun n i => lit_congr _ _ (fun p hp => h p.2 (by simp only [List.mem_toArray, List.mem_map]; exact ⟨p, hp, rfl⟩))
    simp only [this]
  case call c =>
    obtain ⟨callee, ⟨args⟩, ⟨argTypes⟩⟩ := c
    simp only [Call.operands] at h hl
    cases callee with
    | value f =>
      cases f <;> try (simp only [effA]; done)
      rename_i f
      simp only [effA]
      have he : evAll ev args = evAll ev' args := evAll_congr args (fun x hx => h x (by simp [hx]))
      rw [← he]
      cases hts : evAll ev args with
      | none => cases List.find? (fun x => x.i == i) items <;> rfl
      | some ts =>
        have hlv : ∀ t ∈ ts, sameTV H H' t := fun t ht => by
          obtain ⟨k, hk, rfl⟩ := List.getElem_of_mem ht
          obtain ⟨x, hx, hxt⟩ := (evAll_spec hts).2 k _ (List.getElem?_eq_getElem hk)
          exact hl x (by simp [List.mem_of_getElem? hx]) _ hxt
        have e1 : ts.map (norm H') = ts.map (norm H) := List.map_congr_left fun t ht => (norm_grow (hlv t ht)).1
        have e2 : ∀ b, ts.all (normOk b H') = ts.all (normOk b H) := fun b => by
          rw [Bool.eq_iff_iff]
          simp only [List.all_eq_true]
          exact ⟨fun hh t ht => by rw [← (norm_grow (hlv t ht)).2 b]; exact hh t ht, fun hh t ht => by rw [(norm_grow (hlv t ht)).2 b]; exact hh t ht⟩
        cases List.find? (fun x => x.i == i) items with
        | none => rfl
        | some it =>
          have ec : (it.f = f ∧ ts.map (norm H') = it.args ∧ ts.all (normOk it.res.plain H') = true ∧ (!it.res.fam.isEmpty || noRefTV it.res.r) = true) ↔ (it.f = f ∧ ts.map (norm H) = it.args ∧ ts.all (normOk it.res.plain H) = true ∧ (!it.res.fam.isEmpty || noRefTV it.res.r) = true) := by rw [e1, e2]
          by_cases hc : it.f = f ∧ ts.map (norm H) = it.args ∧ ts.all (normOk it.res.plain H) = true ∧ (!it.res.fam.isEmpty || noRefTV it.res.r) = true
          · simp only []
            rw [if_pos hc, if_pos (ec.2 hc)]
          · simp only []
            rw [if_neg hc, if_neg (fun h => hc (ec.1 h))]
    | builtin b =>
      cases b <;> try (simp only [effA]; done)
      simp only [effA]
      split
      · rename_i x y t t'
        rw [← h x (by simp), ← h y (by simp)]
        have e1 : (ev y).bind (newsOf H') = (ev y).bind (newsOf H) := by
          cases hy : ev y with
          | none => rfl
          | some ty => exact news_grow (hl y (by simp) ty hy)
        rw [e1]
      · rfl
    | invoke r m => simp only [effA]
end
end Go.Proofs.YtennjcjjegbhgaaGreat

/-
  The abstract machine: operations that do not touch one another may be exchanged.
-/
namespace Go.Proofs.YtennjcjjegbhgaaGreat
open Go.RowKit

inductive Out where
  | val (t : TV)
  | new (t : TV) (o : OObj) (l : List OObj)
  | wr (q : DRes)

section
variable (P : Program) (items : List (Item P)) (ow : List Nat)

noncomputable def outA (r : Option (TV × List OObj)) : Option Out := match r with
  | some (t, []) => some (.val t)
  | some (t, o :: l) => some (.new t o l)
  | none => none
noncomputable def outOp (i : Nat) (d : Option Tmp) (op : Op) (ev : Operand → Option TV) (H : OH) : Option Out :=
  if isM op then (effM P ev op).map .val
  else if isR op then (effR P ev H op).map .val
  else match effD P ev H op with
    | some q => some (.wr q)
    | none => match d with
      | none => none
      | some d => outA (effA P items ow i d ev H op)
def appOut (d : Option Tmp) (s : AS) : Out → Option AS
  | .val t => some (s.put d t)
  | .new t o l => match d with
    | some d => (match s.H d with | [] => some (AS.put ⟨s.tmps, updH s.H d (o :: l)⟩ (some d) t) | _ => none)
    | none => none
  | .wr q => some (AS.put ⟨s.tmps.map (killTV q.k), q.H⟩ d q.t)

theorem absOp_out (i : Nat) (o : Oper) (s : AS) : absOp P items ow i o s = (outOp P items ow i o.dst o.op s.ev s.H).bind (appOut o.dst s) := by
  unfold absOp outOp
  split
  · cases effM P s.ev o.op <;> rfl
  · split
    · cases effR P s.ev s.H o.op <;> rfl
    · cases effD P s.ev s.H o.op with
      | some q => rfl
      | none =>
        cases hd : o.dst with
        | none => rfl
        | some d =>
          simp only
          cases hA : effA P items ow i d s.ev s.H o.op with
          | none => rfl
          | some tF =>
            obtain ⟨t, F⟩ := tF
            cases F with
            | nil => rfl
            | cons o' l => simp only [outA, Option.bind_some, appOut]; cases s.H d <;> rfl

/-- What the guard says: some true: carried out. -/
def gate (ops : Array Oper) (o : Oper) (s : AS) : Option Bool := match o.guard with
  | none => some true
  | some (g, want) => match (ops[g]?).bind (·.dst) with
    | none => none
    | some d => match s.tmps[d]? with
      | some (.one (.p (.raw (.bool b)))) => some (b == want)
      | some (.tup []) => some false
      | _ => none
noncomputable def stepOut (ops : Array Oper) (i : Nat) (o : Oper) (s : AS) : Option Out := match gate ops o s with
  | some true => outOp P items ow i o.dst o.op s.ev s.H
  | some false => some (.val .undef)
  | none => none

theorem absStep_out (ops : Array Oper) (i : Nat) (o : Oper) (s : AS) : absStep P items ow ops i o s = (stepOut P items ow ops i o s).bind (appOut o.dst s) := by
  unfold absStep stepOut gate
  cases hg : o.guard with
  | none => simp only; exact absOp_out P items ow i o s
  | some gw =>
    obtain ⟨g, want⟩ := gw
    simp only
    cases (ops[g]?).bind (·.dst) with
    | none => rfl
    | some d =>
      simp only
      cases hs : s.tmps[d]? with
      | none => rfl
      | some t =>
        cases t with
        | agg cs => rfl
        | tup ts => cases ts <;> rfl
        | one x =>
          cases x with
          | sl a r off len => rfl
          | ptr a r i j => rfl
          | junk => rfl
          | p x =>
            cases x with
            | sl xs => rfl
            | ptr cs => rfl
            | raw v =>
              cases v <;> try rfl
              rename_i b
              simp only
              by_cases hbw : b = want
              · subst hbw; simp only [if_true, beq_self_eq_true]; exact absOp_out P items ow i o s
              · rw [if_neg hbw]
                have : (b == want) = false := by simpa using hbw
                rw [this]; rfl

variable {P} {items} {ow}
variable {ops : Array Oper} {s s1 s2 s' : AS} {H H' : OH}

theorem put_tmps (s : AS) (d : Option Tmp) (t : TV) (k : Nat) (h : ∀ e, d = some e → e ≠ k) : (s.put d t).tmps[k]? = s.tmps[k]? := by
  cases d with
  | none => rfl
  | some e => simp only [AS.put]; exact List.getElem?_set_ne (h e rfl)
theorem put_ev (s : AS) (d : Option Tmp) (t : TV) {x : Operand} (h : ∀ e, d = some e → x ≠ .tmp e) : (s.put d t).ev x = s.ev x := by
  cases x with
  | tmp k => exact put_tmps s d t k (fun e he hk => h e he (by rw [hk]))
  | const v => rfl
  | global g => rfl
  | func f => rfl
theorem put_comm' (s : AS) {d e : Option Tmp} (t u : TV) (h : ∀ k, d = some k → e ≠ some k) : (s.put d t).put e u = (s.put e u).put d t := by
  cases d with
  | none => rfl
  | some d =>
    cases e with
    | none => rfl
    | some e =>
      have : d ≠ e := fun hde => h d rfl (by rw [hde])
      simp only [AS.put]
      rw [List.set_comm _ _ this]

/-- o looks at nothing that d is. -/
def NoLook (ops : Array Oper) (o : Oper) (d : Option Tmp) : Prop := ∀ e, d = some e → e ∉ o.looksAt ops

theorem NoLook.op {o : Oper} {d : Option Tmp} (h : NoLook ops o d) : ∀ x ∈ o.op.operands, ∀ e, d = some e → x ≠ .tmp e := fun x hx e he hxe => by
  subst hxe
  exact h e he (List.mem_append_left _ (List.mem_filterMap.2 ⟨.tmp e, by simpa using hx, rfl⟩))
theorem NoLook.gate {o : Oper} {d : Option Tmp} (h : NoLook ops o d) {g : Nat} {w : Bool} (hg : o.guard = some (g, w)) {k : Tmp} (hk : (ops[g]?).bind (·.dst) = some k) : ∀ e, d = some e → e ≠ k := fun e he hek => by
  subst hek
  refine h e he (List.mem_append_right _ ?_)
  simp only [hg, hk]
  simp

theorem gate_put {o : Oper} {d : Option Tmp} (h : NoLook ops o d) (t : TV) : gate ops o (s.put d t) = gate ops o s := by
  unfold gate
  cases hg : o.guard with
  | none => rfl
  | some gw =>
    obtain ⟨g, want⟩ := gw
    simp only
    cases hk : (ops[g]?).bind (·.dst) with
    | none => rfl
    | some k => simp only; rw [put_tmps s d t k (h.gate hg hk)]
theorem gate_H {o : Oper} (tm : List TV) (H H' : OH) : gate ops o ⟨tm, H⟩ = gate ops o ⟨tm, H'⟩ := rfl

theorem kill_ev (k : Nat → Nat → Bool) (H' : OH) (x : Operand) : AS.ev ⟨s.tmps.map (killTV k), H'⟩ x = (s.ev x).map (killTV k) := by
  cases x with
  | tmp t => simp only [AS.ev, List.getElem?_map]
  | const v =>
    simp only [AS.ev, Option.map_some]
    congr 1
    unfold ofConst
    split
    · split
      · simp only [killTV]; congr 1; rw [List.map_map]; rfl
      · rfl
    · split <;> rfl
  | global g => rfl
  | func f => rfl

theorem gate_kill {o : Oper} (k : Nat → Nat → Bool) (H' : OH) : gate ops o ⟨s.tmps.map (killTV k), H'⟩ = gate ops o s := by
  unfold gate
  cases hg : o.guard with
  | none => rfl
  | some gw =>
    obtain ⟨g, want⟩ := gw
    simp only
    cases hk : (ops[g]?).bind (·.dst) with
    | none => rfl
    | some e =>
      simp only [List.getElem?_map]
      cases s.tmps[e]? with
      | none => rfl
      | some t =>
        cases t with
        | one x =>
          cases x with
          | p x => rfl
          | sl a r off len => simp only [Option.map_some, killTV, killAV]; cases k a r <;> rfl
          | ptr a r i j => simp only [Option.map_some, killTV, killAV]; cases k a r <;> rfl
          | junk => rfl
        | agg cs => rfl
        | tup ts => cases ts <;> rfl

theorem effD_congr {ev ev' : Operand → Option TV} {op : Op} (h : ∀ x ∈ op.operands, ev x = ev' x) : effD P ev H op = effD P ev' H op := by
  cases op <;> simp only [Op.operands] at h <;> try (simp only [effD]; done)
  case store t x y => simp only [effD, ← h x (by simp), ← h y (by simp)]
  case call c =>
    obtain ⟨callee, ⟨args⟩, ⟨argTypes⟩⟩ := c
    simp only [Call.operands] at h
    simp only [effD]
    split
    · rename_i x y t t'
      rw [← h x (by simp), ← h y (by simp)]
    · rfl

theorem outOp_congr {i : Nat} {d : Option Tmp} {ev ev' : Operand → Option TV} {op : Op} (h : ∀ x ∈ op.operands, ev x = ev' x) (hs : ∀ x ∈ op.operands, ∀ t, ev x = some t → sameTV H H' t) (hD : H' = H ∨ ∀ e G, effD P e G op = none) :
    outOp P items ow i d op ev H = outOp P items ow i d op ev' H' := by
  unfold outOp
  rw [effM_congr h, effR_congr h hs]
  have hd : effD P ev H op = effD P ev' H' op := by
    rcases hD with rfl | hD
    · exact effD_congr h
    · rw [hD, hD]
  rw [hd]
  have ha : ∀ d, effA P items ow i d ev H op = effA P items ow i d ev' H' op := fun d => effA_congr h hs
  simp only [ha]

theorem stepOut_put {i : Nat} {o : Oper} {d : Option Tmp} (h : NoLook ops o d) (t : TV) : stepOut P items ow ops i o (s.put d t) = stepOut P items ow ops i o s := by
  unfold stepOut
  rw [gate_put h, put_H]
  split
  · exact (outOp_congr (fun x hx => (put_ev s d t (h.op x hx)).symm) (fun x _ t _ => sameTV_refl t) (.inl rfl)).symm
  · rfl
  · rfl

/-- .. of an operation that only looks, when memory grows. -/
theorem stepOut_grow {i : Nat} {o : Oper} (hl : Live s) (hg : Grows s.H H') (hD : ∀ e G, effD P e G o.op = none) : stepOut P items ow ops i o ⟨s.tmps, H'⟩ = stepOut P items ow ops i o s := by
  unfold stepOut
  rw [show gate ops o ⟨s.tmps, H'⟩ = gate ops o s from rfl]
  split
  · refine (outOp_congr (fun x _ => ?_) (fun x _ t ht => sameTV_live (ev_live hl ht) hg) (.inr hD)).symm
    cases x <;> rfl
  · rfl
  · rfl

theorem stepOut_M {i : Nat} {o : Oper} (hM : isM o.op = true) {out : Out} (h : stepOut P items ow ops i o s = some out) : ∃ t, out = .val t := by
  unfold stepOut outOp at h
  split at h
  · rw [if_pos hM] at h
    obtain ⟨t, _, rfl⟩ := Option.map_eq_some_iff.1 h
    exact ⟨t, rfl⟩
  · injection h with h; exact ⟨_, h.symm⟩
  · cases h

theorem stepOut_MH {i : Nat} {o : Oper} (hM : isM o.op = true) (tm : List TV) (H H' : OH) : stepOut P items ow ops i o ⟨tm, H⟩ = stepOut P items ow ops i o ⟨tm, H'⟩ := by
  unfold stepOut outOp
  rw [show gate ops o ⟨tm, H⟩ = gate ops o ⟨tm, H'⟩ from rfl]
  simp only [hM, if_true]
  rfl

theorem stepOut_kill {i : Nat} {o : Oper} (hM : isM o.op = true) (k : Nat → Nat → Bool) (H' : OH) {t' : TV} : stepOut P items ow ops i o ⟨s.tmps.map (killTV k), H'⟩ = some (.val t') ↔ ∃ t, stepOut P items ow ops i o s = some (.val t) ∧ t' = killTV k t := by
  unfold stepOut outOp
  rw [gate_kill]
  cases gate ops o s with
  | none => simp
  | some b =>
    cases b with
    | false =>
      simp only [Option.some.injEq, Out.val.injEq]
      constructor
      · rintro rfl; exact ⟨_, rfl, rfl⟩
      · rintro ⟨t, rfl, rfl⟩; rfl
    | true =>
      simp only [hM, if_true]
      have e : effM P (AS.ev ⟨s.tmps.map (killTV k), H'⟩) o.op = (effM P s.ev o.op).map (killTV k) := by
        rw [← effM_kill]
        exact effM_congr (fun x _ => kill_ev k H' x)
      rw [e]
      cases effM P s.ev o.op with
      | none => simp
      | some t =>
        simp only [Option.map_some, Option.some.injEq, Out.val.injEq]
        constructor
        · rintro rfl; exact ⟨t, rfl, rfl⟩
        · rintro ⟨t, rfl, rfl⟩; rfl

theorem put_mk (tm : List TV) (H : OH) (d : Option Tmp) (t : TV) : AS.put ⟨tm, H⟩ d t = ⟨(AS.put ⟨tm, H⟩ d t).tmps, H⟩ := by cases d <;> rfl
theorem map_put (s : AS) (k : Nat → Nat → Bool) (H' : OH) (d : Option Tmp) (t : TV) : (⟨(s.put d t).tmps.map (killTV k), H'⟩ : AS) = AS.put ⟨s.tmps.map (killTV k), H'⟩ d (killTV k t) := by
  cases d with
  | none => rfl
  | some d => simp only [AS.put, List.map_set]

/-- Two operations may be exchanged if one passes values on, or both leave memory as it is but for new rows. -/
def Swaps (P : Program) (oi oj : Oper) : Prop := isM oi.op = true ∨ isM oj.op = true ∨ ((∀ e G, effD P e G oi.op = none) ∧ ∀ e G, effD P e G oj.op = none)

theorem appOut_grows {d : Option Tmp} {out : Out} (hw : ∀ q, out ≠ .wr q) (h : appOut d s out = some s1) : ∃ t H1, s1 = AS.put ⟨s.tmps, H1⟩ d t ∧ Grows s.H H1 ∧ ((H1 = s.H ∧ out = .val t) ∨ ∃ e o l, d = some e ∧ s.H e = [] ∧ H1 = updH s.H e (o :: l) ∧ out = .new t o l) := by
  cases out with
  | val t => simp only [appOut] at h; injection h with h; exact ⟨t, s.H, h.symm, fun _ _ => rfl, .inl ⟨rfl, rfl⟩⟩
  | new t o l =>
    simp only [appOut] at h
    cases d with
    | none => cases h
    | some e =>
      simp only at h
      split at h
      · rename_i hH
        injection h with h
        refine ⟨t, updH s.H e (o :: l), h.symm, fun a ha => ?_, .inr ⟨e, o, l, rfl, hH, rfl, rfl⟩⟩
        exact updH_ne (by rintro rfl; exact ha hH)
      · cases h
  | wr q => exact absurd rfl (hw q)

theorem swap_step {i j : Nat} {oi oj : Oper} (hl : Live s) (hij : NoLook ops oj oi.dst) (hji : NoLook ops oi oj.dst) (hd : ∀ k, oi.dst = some k → oj.dst ≠ some k) (hsw : Swaps P oi oj)
    (h1 : absStep P items ow ops i oi s = some s1) (h2 : absStep P items ow ops j oj s1 = some s') : ∃ s2, absStep P items ow ops j oj s = some s2 ∧ absStep P items ow ops i oi s2 = some s' := by
  rw [absStep_out] at h1 h2
  obtain ⟨ui, hui, h1⟩ := Option.bind_eq_some_iff.1 h1
  obtain ⟨uj, huj, h2⟩ := Option.bind_eq_some_iff.1 h2
  by_cases hMi : isM oi.op = true
  · obtain ⟨t, rfl⟩ := stepOut_M hMi hui
    simp only [appOut] at h1
    injection h1 with h1
    subst h1
    rw [stepOut_put hij] at huj
    cases uj with
    | val u =>
      simp only [appOut] at h2
      injection h2 with h2
      subst h2
      refine ⟨s.put oj.dst u, by rw [absStep_out, huj]; rfl, ?_⟩
      rw [absStep_out, stepOut_put hji, hui]
      simp only [Option.bind_some, appOut]
      rw [put_comm' s t u hd]
    | new u o l =>
      simp only [appOut, put_H] at h2
      cases hdj : oj.dst with
      | none => rw [hdj] at h2; cases h2
      | some e =>
        rw [hdj] at h2
        simp only at h2
        split at h2
        · rename_i hH
          injection h2 with h2
          subst h2
          refine ⟨AS.put ⟨s.tmps, updH s.H e (o :: l)⟩ (some e) u, by rw [absStep_out, huj]; simp only [Option.bind_some, appOut, hdj, hH], ?_⟩
          rw [absStep_out, ← hdj, stepOut_put hji, stepOut_MH hMi s.tmps _ s.H]
          rw [show (⟨s.tmps, s.H⟩ : AS) = s from rfl, hui]
          simp only [Option.bind_some, appOut]
          rw [put_comm' _ u t (fun k hk hk' => hd k hk' (by rw [hk]))]
          congr 2
          cases oi.dst <;> rfl
        · cases h2
    | wr q =>
      simp only [appOut] at h2
      injection h2 with h2
      subst h2
      refine ⟨AS.put ⟨s.tmps.map (killTV q.k), q.H⟩ oj.dst q.t, by rw [absStep_out, huj]; rfl, ?_⟩
      rw [absStep_out, stepOut_put hji, (stepOut_kill hMi q.k q.H).2 ⟨t, hui, rfl⟩]
      simp only [Option.bind_some, appOut]
      rw [map_put, put_comm' _ _ _ (fun k hk hk' => hd k hk' (by rw [hk]))]
  · by_cases hMj : isM oj.op = true
    · obtain ⟨u, rfl⟩ := stepOut_M hMj huj
      simp only [appOut] at h2
      injection h2 with h2
      subst h2
      cases ui with
      | val t =>
        simp only [appOut] at h1
        injection h1 with h1
        subst h1
        rw [stepOut_put hij] at huj
        refine ⟨s.put oj.dst u, by rw [absStep_out, huj]; rfl, ?_⟩
        rw [absStep_out, stepOut_put hji, hui]
        simp only [Option.bind_some, appOut]
        rw [put_comm' s t u hd]
      | new t o l =>
        simp only [appOut] at h1
        cases hdi : oi.dst with
        | none => rw [hdi] at h1; cases h1
        | some e =>
          rw [hdi] at h1
          simp only at h1
          split at h1
          · rename_i hH
            injection h1 with h1
            subst h1
            rw [← hdi, stepOut_put hij, stepOut_MH hMj s.tmps _ s.H, show (⟨s.tmps, s.H⟩ : AS) = s from rfl] at huj
            refine ⟨s.put oj.dst u, by rw [absStep_out, huj]; rfl, ?_⟩
            rw [absStep_out, stepOut_put hji, hui]
            simp only [Option.bind_some, appOut, put_H, hdi, hH]
            rw [put_comm' _ t u (fun k hk => hd k (by rw [hdi]; exact hk))]
            congr 2
            cases oj.dst <;> rfl
          · cases h1
      | wr q =>
        simp only [appOut] at h1
        injection h1 with h1
        subst h1
        rw [stepOut_put hij] at huj
        obtain ⟨u0, hu0, rfl⟩ := (stepOut_kill hMj q.k q.H).1 huj
        refine ⟨s.put oj.dst u0, by rw [absStep_out, hu0]; rfl, ?_⟩
        rw [absStep_out, stepOut_put hji, hui]
        simp only [Option.bind_some, appOut]
        rw [map_put, put_comm' _ _ _ hd]
    · obtain ⟨hDi, hDj⟩ : (∀ e G, effD P e G oi.op = none) ∧ ∀ e G, effD P e G oj.op = none := by
        rcases hsw with h | h | h
        · exact absurd h hMi
        · exact absurd h hMj
        · exact h
      have nowr : ∀ {i : Nat} {o : Oper} {s : AS} {u : Out}, (∀ e G, effD P e G o.op = none) → stepOut P items ow ops i o s = some u → ∀ q, u ≠ .wr q := fun {i o s u} hD hu q hq => by
        subst hq
        unfold stepOut outOp at hu
        split at hu
        · split at hu
          · obtain ⟨_, _, hh⟩ := Option.map_eq_some_iff.1 hu; cases hh
          · split at hu
            · obtain ⟨_, _, hh⟩ := Option.map_eq_some_iff.1 hu; cases hh
            · rw [hD] at hu
              simp only at hu
              split at hu
              · cases hu
              · unfold outA at hu
                split at hu <;> cases hu
        · cases hu
        · cases hu
      obtain ⟨t, H1, rfl, hg1, hc1⟩ := appOut_grows (nowr hDi hui) h1
      rw [stepOut_put hij, stepOut_grow hl hg1 hDj] at huj
      obtain ⟨u, H2, rfl, hg2, hc2⟩ := appOut_grows (nowr hDj huj) h2
      simp only [put_H] at hc2 hg2
      -- what j does to s alone
      have hj : ∃ H3, absStep P items ow ops j oj s = some (AS.put ⟨s.tmps, H3⟩ oj.dst u) ∧ Grows s.H H3 ∧ ((H3 = s.H ∧ H2 = H1) ∨ ∃ e o l, oj.dst = some e ∧ H3 = updH s.H e (o :: l) ∧ H2 = updH H1 e (o :: l)) := by
        rcases hc2 with ⟨e1, e2⟩ | ⟨e, o, l, e1, e2, e3, e4⟩
        · exact ⟨s.H, by rw [absStep_out, huj, e2]; rfl, fun _ _ => rfl, .inl ⟨rfl, e1⟩⟩
        · have hse : s.H e = [] := by
            rcases hc1 with ⟨c1, _⟩ | ⟨e', o', l', c1, c2, c3, _⟩
            · rw [← c1]; exact e2
            · rw [c3, updH_ne (by rintro rfl; exact hd _ c1 e1)] at e2; exact e2
          refine ⟨updH s.H e (o :: l), by rw [absStep_out, huj, e4]; simp only [Option.bind_some, appOut, e1, hse], fun a ha => updH_ne (by rintro rfl; exact ha hse), .inr ⟨e, o, l, e1, rfl, e3⟩⟩
      obtain ⟨H3, hj1, hg3, hj2⟩ := hj
      refine ⟨_, hj1, ?_⟩
      rw [absStep_out, stepOut_put hji, stepOut_grow hl hg3 hDi, hui]
      simp only [Option.bind_some]
      rcases hc1 with ⟨c1, c2⟩ | ⟨e', o', l', c1, c2, c3, c4⟩
      · subst c2
        simp only [appOut]
        rw [put_comm' _ u t (fun k hk hk' => hd k hk' (by rw [hk]))]
        congr 1
        have : H3 = H2 := by
          rcases hj2 with ⟨q1, q2⟩ | ⟨e, o, l, q0, q1, q2⟩
          · rw [q1, q2, c1]
          · rw [q1, q2, c1]
        rw [this, put_mk s.tmps H1, c1]
        cases oi.dst <;> rfl
      · subst c4
        have hH3 : H3 e' = [] := by
          rcases hj2 with ⟨q1, _⟩ | ⟨e, o, l, q0, q1, _⟩
          · rw [q1]; exact c2
          · rw [q1, updH_ne (by rintro rfl; exact hd _ c1 q0)]; exact c2
        simp only [appOut, c1, put_H, hH3]
        have e1 : (⟨(AS.put ⟨s.tmps, H3⟩ oj.dst u).tmps, updH H3 e' (o' :: l')⟩ : AS) = AS.put ⟨s.tmps, updH H3 e' (o' :: l')⟩ oj.dst u := by cases oj.dst <;> rfl
        rw [e1, put_comm' _ u t (fun k hk hk' => hd k (by rw [c1]; exact hk') (by rw [hk]))]
        congr 1
        have : updH H3 e' (o' :: l') = H2 := by
          rcases hj2 with ⟨q1, q2⟩ | ⟨e, o, l, q0, q1, q2⟩
          · rw [q1, q2, c3]
          · rw [q1, q2, c3]
            funext z
            have hne : e' ≠ e := by rintro rfl; exact hd _ c1 q0
            by_cases h1 : z = e'
            · subst h1; rw [updH_eq, updH_ne hne, updH_eq]
            · rw [updH_ne h1]
              by_cases h2 : z = e
              · subst h2; rw [updH_eq, updH_eq]
              · rw [updH_ne h2, updH_ne h2, updH_ne h1]
        rw [this, put_mk s.tmps H1]
        rfl
end
end Go.Proofs.YtennjcjjegbhgaaGreat

/-
  The abstract machine: what is alive stays alive.
-/
namespace Go.Proofs.YtennjcjjegbhgaaGreat
open Go.RowKit

section
variable {P : Program} {items : List (Item P)} {ow : List Nat} {ops : Array Oper} {s s1 s' : AS} {H H' : OH}

theorem noRef_live {t : TV} (h : noRefTV t = true) : liveTV H t := by
  have av : ∀ x, noRefAV x = true → liveAV H x := fun x hx => by cases x <;> first | trivial | cases hx
  cases t with
  | one x => exact av x h
  | agg cs => simp only [noRefTV, List.all_eq_true] at h; exact fun x hx => av x (h x hx)
  | tup ts => simp only [noRefTV, List.all_eq_true] at h; exact fun t ht x hx => av x (h t ht x hx)
theorem self_liveTV {t : TV} {d : Nat} (h : selfTV d t) (hd : H d ≠ []) : liveTV H t := by
  have av : ∀ x, selfAV d x → liveAV H x := fun x hx => by
    cases x with
    | sl a _ _ _ => have hx : a = d := hx; subst hx; exact hd
    | ptr a _ _ _ => have hx : a = d := hx; subst hx; exact hd
    | p x => trivial
    | junk => trivial
  cases t with
  | one x => exact av x h
  | agg cs => exact fun x hx => av x (h x hx)
  | tup ts => exact fun t ht x hx => av x (h t ht x hx)
theorem ren_self (d : Nat) (x : AV) : selfAV d (renAV d x) := by cases x <;> first | rfl | trivial
theorem renTV_self (d : Nat) (t : TV) : selfTV d (renTV d t) := by
  cases t with
  | one x => exact ren_self d x
  | agg cs => intro x hx; simp only [List.mem_map] at hx; obtain ⟨y, _, rfl⟩ := hx; exact ren_self d y
  | tup ts =>
    intro t ht x hx
    simp only [List.mem_map] at ht
    obtain ⟨t', _, rfl⟩ := ht
    simp only [List.mem_map] at hx
    obtain ⟨y, _, rfl⟩ := hx
    exact ren_self d y
theorem noRef_ren {d : Nat} {t : TV} (h : noRefTV t = true) : noRefTV (renTV d t) = true := by
  have av : ∀ x, noRefAV x = true → noRefAV (renAV d x) = true := fun x hx => by cases x <;> first | rfl | cases hx
  cases t with
  | one x => exact av x h
  | agg cs => simp only [noRefTV, List.all_eq_true] at h; simp only [renTV, noRefTV, List.all_eq_true, List.mem_map]; rintro _ ⟨x, hx, rfl⟩; exact av x (h x hx)
  | tup ts =>
    simp only [noRefTV, List.all_eq_true] at h
    simp only [renTV, noRefTV, List.all_eq_true, List.mem_map]
    rintro _ ⟨t, ht, rfl⟩ _ hx
    simp only [List.mem_map] at hx
    obtain ⟨x, hx, rfl⟩ := hx
    exact av x (h t ht x hx)

theorem pureRow_self {a : Nat} {o : OObj} (h : ∀ e ∈ o.elems, ∀ x ∈ e, isPure x = true) : selfO a o := fun e he x hx => pure_self (h e he x hx)

theorem news_pure {t : TV} {news : List (List AV)} (h : newsOf H t = some news) : ∀ e ∈ news, ∀ x ∈ e, isPure x = true := by
  unfold newsOf at h
  split at h
  · injection h with h
    subst h
    intro e he x hx
    simp only [List.mem_map] at he
    obtain ⟨e', _, rfl⟩ := he
    simp only [List.mem_map] at hx
    obtain ⟨x', _, rfl⟩ := hx
    rfl
  · injection h with h; subst h; intro e he; simp at he
  · split at h
    · split at h
      · rename_i hp
        injection h with h
        subst h
        simp only [List.all_eq_true] at hp
        exact fun e he x hx => hp e (List.mem_of_mem_take (List.mem_of_mem_drop he)) x hx
      · cases h
    · cases h
  · cases h

theorem lit_pure {ev : Operand → Option TV} {n : Nat} : ∀ (parts : List (Nat × Operand)) (i : Nat) (l : List (List AV)), litA ev n i parts = some l → ∀ e ∈ l, ∀ x ∈ e, isPure x = true
  | [], i, l, h => by simp only [litA] at h; injection h with h; subst h; intro e he; simp at he
  | (k, x) :: rest, i, l, h => by
    simp only [litA] at h
    split at h
    · rename_i cs l' hcs hl'
      split at h
      · rename_i hc
        injection h with h
        subst h
        intro e he y hy
        rcases List.mem_cons.1 he with rfl | he
        · have := hc.2.2; simp only [List.all_eq_true] at this; exact this y hy
        · exact lit_pure rest (i + 1) l' hl' e he y hy
      · cases h
    · cases h

theorem effA_shape {i d : Nat} {ev : Operand → Option TV} {op : Op} {t : TV} {F : List OObj} (h : effA P items ow i d ev H op = some (t, F)) : selfTV d t ∧ (F = [] → noRefTV t = true) ∧ ∀ o ∈ F, selfO d o := by
  cases op <;> simp only [effA] at h <;> try cases h
  case box e x =>
    split at h
    · split at h
      · rename_i hc
        injection h with h
        injection h with h1 h2
        subst h1 h2
        refine ⟨rfl, fun h => by simp at h, fun o ho => ?_⟩
        simp at ho
        subst ho
        have := hc.1
        simp only [List.all_eq_true] at this
        exact pureRow_self (fun e he x hx => by simp at he; subst he; exact this x hx)
      · cases h
    · cases h
  case alloc e =>
    split at h
    · split at h
      · injection h with h
        injection h with h1 h2
        subst h1 h2
        refine ⟨rfl, fun h => by simp at h, fun o ho => ?_⟩
        simp at ho
        subst ho
        exact pureRow_self (fun e he x hx => by simp at he; subst he; simp at hx; obtain ⟨y, _, rfl⟩ := hx; rfl)
      · cases h
    · cases h
  case makeSlice ty l c =>
    split at h
    · split at h
      · split at h
        · injection h with h
          injection h with h1 h2
          subst h1 h2
          refine ⟨rfl, fun h => by simp at h, fun o ho => ?_⟩
          simp at ho
          subst ho
          exact pureRow_self (fun e he x hx => by simp [List.mem_replicate] at he; rw [he.2] at hx; simp at hx; obtain ⟨y, _, rfl⟩ := hx; rfl)
        · cases h
      · cases h
    · cases h
  case buildSlice ty n parts =>
    split at h
    · split at h
      · split at h
        · rename_i l hl
          split at h
          · split at h
            · injection h with h
              injection h with h1 h2
              subst h1 h2
              refine ⟨rfl, fun h => by simp at h, fun o ho => ?_⟩
              simp at ho
              subst ho
              exact pureRow_self (lit_pure _ _ _ hl)
            · injection h with h
              injection h with h1 h2
              subst h1 h2
              exact ⟨trivial, fun _ => rfl, fun o ho => by simp at ho⟩
          · cases h
        · cases h
      · cases h
    · cases h
  case call c =>
    split at h
    · split at h
      · rename_i it ts hit hts
        split at h
        · rename_i hc
          injection h with h
          injection h with h1 h2
          subst h1 h2
          refine ⟨renTV_self _ _, fun hF => ?_, fun o ho => ?_⟩
          · have h4 := hc.2.2.2
            simp only [List.map_eq_nil_iff] at hF
            rw [hF] at h4
            exact noRef_ren (by simpa using h4)
          · simp only [List.mem_map] at ho
            obtain ⟨o', _, rfl⟩ := ho
            intro e he x hx
            simp only [renO, List.mem_map] at he
            obtain ⟨e', _, rfl⟩ := he
            simp only [List.mem_map] at hx
            obtain ⟨y, _, rfl⟩ := hx
            exact ren_self d y
        · cases h
      · cases h
    · split at h
      · split at h
        · rename_i news e hs hx hsl
          split at h
          · split at h
            · injection h with h
              injection h with h1 h2
              subst h1 h2
              refine ⟨rfl, fun h => by simp at h, fun o ho => ?_⟩
              simp at ho
              subst ho
              obtain ⟨tx, _, hn⟩ := Option.bind_eq_some_iff.1 hx
              exact pureRow_self (news_pure hn)
            · cases h
          · cases h
        · cases h
      · cases h
    · cases h

theorem killAV_live {k : Nat → Nat → Bool} {x : AV} (h : ∀ a r, H a ≠ [] → k a r = false → H' a ≠ []) (hx : liveAV H x) : liveAV H' (killAV k x) := by
  cases x with
  | sl a r off len =>
    simp only [killAV]
    cases hk : k a r with
    | true => trivial
    | false => exact h a r hx hk
  | ptr a r i j =>
    simp only [killAV]
    cases hk : k a r with
    | true => trivial
    | false => exact h a r hx hk
  | p x => trivial
  | junk => trivial
theorem killTV_live {k : Nat → Nat → Bool} {t : TV} (h : ∀ a r, H a ≠ [] → k a r = false → H' a ≠ []) (hx : liveTV H t) : liveTV H' (killTV k t) := by
  cases t with
  | one x => exact killAV_live h hx
  | agg cs => intro y hy; simp only [List.mem_map] at hy; obtain ⟨z, hz, rfl⟩ := hy; exact killAV_live h (hx z hz)
  | tup ts =>
    intro t ht y hy
    simp only [List.mem_map] at ht
    obtain ⟨t', ht', rfl⟩ := ht
    simp only [List.mem_map] at hy
    obtain ⟨z, hz, rfl⟩ := hy
    exact killAV_live h (hx t' ht' z hz)

theorem set_self {a r : Nat} {l : List OObj} {o o' : OObj} (hl : ∀ o ∈ l, selfO a o) (ho' : selfO a o') : ∀ o ∈ l.set r o', selfO a o := fun x hx => by
  rcases List.mem_or_eq_of_mem_set hx with hx | rfl
  · exact hl x hx
  · exact ho'
theorem put_self {a i j : Nat} {o : OObj} {e cs : List AV} (ho : selfO a o) (he : o.elems[i]? = some e) (hc : ∀ x ∈ cs, selfAV a x) : selfO a { o with elems := o.elems.set i (putCells e j cs) } := fun y hy x hx => by
  rcases List.mem_or_eq_of_mem_set hy with hy | rfl
  · exact ho y hy x hx
  · unfold putCells at hx
    simp only [List.mem_append] at hx
    rcases hx with (hx | hx) | hx
    · exact ho e (List.mem_of_getElem? he) x (List.mem_of_mem_take hx)
    · exact hc x hx
    · exact ho e (List.mem_of_getElem? he) x (List.mem_of_mem_drop hx)

theorem effD_live (hl : Live s) {op : Op} {q : DRes} (h : effD P s.ev s.H op = some q) : (∀ a r, s.H a ≠ [] → q.k a r = false → q.H a ≠ []) ∧ (∀ a, ∀ o ∈ q.H a, selfO a o) ∧ liveTV q.H q.t := by
  have hundef : ∀ H, liveTV H TV.undef := fun H t ht => by simp at ht
  have upd1 : ∀ {a r : Nat} {o : OObj} {F : List OObj}, (s.H a)[r]? = some o → F.length ≥ (s.H a).length → (∀ o ∈ F, selfO a o) → (∀ (b r' : Nat), s.H b ≠ [] → updH s.H a F b ≠ []) ∧ ∀ b, ∀ o ∈ updH s.H a F b, selfO b o := fun {a r o F} ho hlen hF => by
    have hpos : 0 < (s.H a).length := by have := (List.getElem?_eq_some_iff.1 ho).1; omega
    refine ⟨fun b _ hb => ?_, fun b o' ho' => ?_⟩
    · by_cases hba : b = a
      · subst hba; rw [updH_eq]; intro h0; rw [h0] at hlen; simp at hlen; simp [hlen] at hpos
      · rw [updH_ne hba]; exact hb
    · by_cases hba : b = a
      · subst hba; rw [updH_eq] at ho'; exact hF o' ho'
      · rw [updH_ne hba] at ho'; exact hl.2 b o' ho'
  cases op <;> simp only [effD] at h <;> try cases h
  case store t ad x =>
    split at h
    · rename_i a r i j n had hn
      split at h
      · rename_i o ho
        have hso := hl.2 a o (List.mem_of_getElem? ho)
        split at h
        · rename_i e he
          split at h
          · rename_i a' r' off len hx
            split at h
            · rename_i haa
              subst haa
              split at h
              · injection h with h
                subst h
                obtain ⟨g1, g2⟩ := upd1 ho (F := (s.H a').set r { o with elems := o.elems.set i (putCells e j [.sl a' r' off len]) }) (by simp) (set_self (o := o) (hl.2 a') (put_self hso he (fun y hy => by simp at hy; subst hy; rfl)))
                exact ⟨fun b r hb _ => g1 b r hb, g2, hundef _⟩
              · cases h
            · rename_i haa
              split at h
              · rename_i ob hH
                split at h
                · rename_i hc
                  injection h with h
                  subst h
                  have hp := hc.2.2.2.2.2
                  simp only [List.all_eq_true] at hp
                  obtain ⟨g1, g2⟩ := upd1 ho (F := (s.H a).set r { o with elems := o.elems.set i (putCells e j [.sl a (s.H a).length 0 len]) } ++ [ob]) (by simp) (fun y hy => by
                    rcases List.mem_append.1 hy with hy | hy
                    · exact set_self (o := o) (hl.2 a) (put_self hso he (fun y hy => by simp at hy; subst hy; rfl)) y hy
                    · simp at hy; subst hy; exact pureRow_self hp)
                  refine ⟨fun b r hb hk => ?_, fun b o' ho' => ?_, hundef _⟩
                  · have hba : b ≠ a' := by simpa using hk
                    show updH _ a' [] b ≠ []
                    rw [updH_ne hba]; exact g1 b r hb
                  · by_cases hba : b = a'
                    · subst hba; simp only [updH_eq] at ho'; simp at ho'
                    · simp only [updH_ne hba] at ho'; exact g2 b o' ho'
                · cases h
              · cases h
          · rename_i v hv hx
            split at h
            · rename_i cs hcs
              split at h
              · rename_i hc
                injection h with h
                subst h
                have hp := hc.2.2
                simp only [List.all_eq_true] at hp
                obtain ⟨g1, g2⟩ := upd1 ho (F := (s.H a).set r { o with elems := o.elems.set i (putCells e j cs) }) (by simp) (set_self (o := o) (hl.2 a) (put_self hso he (fun y hy => pure_self (hp y hy))))
                exact ⟨fun b r hb _ => g1 b r hb, g2, hundef _⟩
              · cases h
            · cases h
          · cases h
        · cases h
      · cases h
    · cases h
  case call c =>
    split at h
    · split at h
      · rename_i a r off len news e hs hx hsl
        split at h
        · rename_i o z sz by_ ho hz hszo hby
          split at h
          · injection h with h
            subst h
            obtain ⟨tx, _, hn⟩ := Option.bind_eq_some_iff.1 hx
            have hso := hl.2 a o (List.mem_of_getElem? ho)
            obtain ⟨g1, g2⟩ := upd1 ho (F := ((s.H a).map (killO fun x y => x == a && y == r)).set r { o with elems := o.elems ++ news }) (by simp) (fun y hy => by
              rcases List.mem_or_eq_of_mem_set hy with hy | rfl
              · simp only [List.mem_map] at hy
                obtain ⟨o2, ho2, rfl⟩ := hy
                intro e he x hx
                simp only [killO, List.mem_map] at he
                obtain ⟨e', he', rfl⟩ := he
                simp only [List.mem_map] at hx
                obtain ⟨x', hx', rfl⟩ := hx
                have := hl.2 a o2 ho2 e' he' x' hx'
                cases x' with
                | sl b _ _ _ => simp only [killAV]; split; · trivial
                                · exact this
                | ptr b _ _ _ => simp only [killAV]; split; · trivial
                                 · exact this
                | p x => trivial
                | junk => trivial
              · intro e he x hx
                rcases List.mem_append.1 he with he | he
                · exact hso e he x hx
                · exact pure_self (news_pure hn e he x hx))
            refine ⟨fun b r hb _ => g1 b r hb, g2, ?_⟩
            exact g1 a r (by intro h0; rw [h0] at ho; simp at ho)
          · cases h
        · cases h
      · cases h
    · cases h

theorem absStep_live {i : Nat} {o : Oper} (hl : Live s) (h : absStep P items ow ops i o s = some s1) : Live s1 := by
  rw [absStep_out] at h
  obtain ⟨out, hout, h⟩ := Option.bind_eq_some_iff.1 h
  unfold stepOut at hout
  have hundef : liveTV s.H TV.undef := fun t ht => by simp at ht
  split at hout
  · unfold outOp at hout
    split at hout
    · obtain ⟨t, ht, rfl⟩ := Option.map_eq_some_iff.1 hout
      simp only [appOut] at h; injection h with h; subst h
      exact put_live hl (effM_live hl ht)
    · split at hout
      · obtain ⟨t, ht, rfl⟩ := Option.map_eq_some_iff.1 hout
        simp only [appOut] at h; injection h with h; subst h
        exact put_live hl (effR_live hl ht)
      · split at hout
        · rename_i q hq
          injection hout with hout
          subst hout
          simp only [appOut] at h; injection h with h; subst h
          obtain ⟨g1, g2, g3⟩ := effD_live hl hq
          refine put_live ⟨fun t x hx => ?_, g2⟩ g3
          simp only [List.getElem?_map] at hx
          obtain ⟨y, hy, rfl⟩ := Option.map_eq_some_iff.1 hx
          exact killTV_live g1 (hl.1 t y hy)
        · split at hout
          · cases hout
          · rename_i d hd
            cases hA : effA P items ow i d s.ev s.H o.op with
            | none => rw [hA] at hout; cases hout
            | some tF =>
              obtain ⟨t, F⟩ := tF
              rw [hA] at hout
              obtain ⟨f1, f2, f3⟩ := effA_shape hA
              cases F with
              | nil =>
                simp only [outA] at hout
                injection hout with hout
                subst hout
                simp only [appOut] at h; injection h with h; subst h
                exact put_live hl (noRef_live (f2 rfl))
              | cons o' l =>
                simp only [outA] at hout
                injection hout with hout
                subst hout
                simp only [appOut, hd] at h
                split at h
                · rename_i hH
                  injection h with h
                  subst h
                  refine put_live ⟨fun k x hx => ?_, fun b o2 ho2 => ?_⟩ (self_liveTV f1 (by simp [updH_eq]))
                  · have := hl.1 k x hx
                    have hg : ∀ a, s.H a ≠ [] → updH s.H d (o' :: l) a ≠ [] := fun a ha => by rw [updH_ne (by rintro rfl; exact ha hH)]; exact ha
                    have := killTV_live (H' := updH s.H d (o' :: l)) (k := fun _ _ => false) (fun a _ ha _ => hg a ha) this
                    rwa [killTV_false] at this
                  · by_cases hb : b = d
                    · subst hb; simp only [updH_eq] at ho2; exact f3 o2 ho2
                    · simp only [updH_ne hb] at ho2; exact hl.2 b o2 ho2
                · cases h
  · injection hout with hout
    subst hout
    simp only [appOut] at h; injection h with h; subst h
    exact put_live hl hundef
  · cases hout
end
end Go.Proofs.YtennjcjjegbhgaaGreat

/-
  The abstract machine: a region that draws its order.
-/
namespace Go.Proofs.YtennjcjjegbhgaaGreat
open Go.RowKit

def noD : Op → Bool
  | .store .. => false
  | .call { callee := .builtin .append, .. } => false
  | _ => true
theorem noD_spec {P : Program} {op : Op} (h : noD op = true) : ∀ e G, effD P e G op = none := fun e G => by
  cases op <;> simp only [effD] <;> try rfl
  case store => cases h
  case call c =>
    obtain ⟨callee, args, tys⟩ := c
    cases callee with
    | value f => rfl
    | invoke r m => rfl
    | builtin b => cases b <;> first | rfl | cases h

/-- The operations that must come ahead, as bits. -/
def ancStep (acc : List Nat) : List Edge → Nat
  | [] => 0
  | e :: l => if Region.binds .any e then 2 ^ e.on ||| (acc.getD e.on 0 ||| ancStep acc l) else ancStep acc l
def ancs : List Oper → List Nat → List Nat
  | [], acc => acc
  | o :: l, acc => ancs l (acc ++ [ancStep acc o.after.toList])

/-- A load and a store that are known to name other rows: sep lists (the load's pointer, the store's pointer, the type stored). -/
def sepOk (sep : List (Nat × Nat × Nat)) (oi oj : Oper) : Bool := match oi.op, oj.op with
  | .load _ (.tmp p), .store t (.tmp q) _ => sep.contains (p, q, t) && oi.guard.isNone && oj.guard.isNone
  | _, _ => false
def pairOk (sep : List (Nat × Nat × Nat)) (ops : Array Oper) (oi oj : Oper) : Bool := oi.apart ops oj && (isM oi.op || isM oj.op || (noD oi.op && noD oj.op) || sepOk sep oi oj)
def rowOk (sep : List (Nat × Nat × Nat)) (ops : Array Oper) (oj : Oper) (m : Nat) : List Oper → Nat → Bool
  | [], _ => true
  | oi :: l, i => (m.testBit i || pairOk sep ops oi oj) && rowOk sep ops oj m l (i + 1)
def rowsOk (sep : List (Nat × Nat × Nat)) (ops : Array Oper) (A : List Nat) : List Oper → Nat → Bool
  | [], _ => true
  | oj :: l, j => oj.after.all (fun e => !Region.binds .any e || decide (e.on < j)) && rowOk sep ops oj (A.getD j 0) (ops.toList.take j) 0 && rowsOk sep ops A l (j + 1)
/-- Any order does what the order of the text does. -/
def drawOk (sep : List (Nat × Nat × Nat)) (ops : Array Oper) : Bool := rowsOk sep ops (ancs ops.toList []) ops.toList 0 && ops.toList.all fun o => sep.all fun x => o.dst != some x.1 && o.dst != some x.2.1
/-- The pointers of sep name other rows. -/
def SepS (sep : List (Nat × Nat × Nat)) (s : AS) : Prop := ∀ x ∈ sep, ∀ a r i j b r' i' j', s.tmps[x.1]? = some (.one (.ptr a r i j)) → s.tmps[x.2.1]? = some (.one (.ptr b r' i' j')) → b ≠ a
def LvS (sep : List (Nat × Nat × Nat)) (s : AS) : Prop := Live s ∧ SepS sep s
def Sok (P : Program) (sep : List (Nat × Nat × Nat)) (ops : Array Oper) : Prop := (∀ x ∈ sep, szO P x.2.2 ≠ some 1) ∧ ∀ (j : Nat) o, ops[j]? = some o → ∀ x ∈ sep, o.dst ≠ some x.1 ∧ o.dst ≠ some x.2.1

section
variable {ops : Array Oper} {sep : List (Nat × Nat × Nat)}

theorem ancs_spec : ∀ (l : List Oper) (acc : List Nat), (ancs l acc).length = acc.length + l.length ∧ (∀ k, k < acc.length → (ancs l acc)[k]? = acc[k]?) ∧
    ∀ (j : Nat) o, l[j]? = some o → (ancs l acc)[acc.length + j]? = some (ancStep ((ancs l acc).take (acc.length + j)) o.after.toList)
  | [], acc => ⟨by simp [ancs], fun k _ => rfl, fun j o h => by simp at h⟩
  | o :: l, acc => by
    obtain ⟨h1, h2, h3⟩ := ancs_spec l (acc ++ [ancStep acc o.after.toList])
    simp only [ancs]
    refine ⟨by rw [h1]; simp; omega, fun k hk => by rw [h2 k (by simp; omega), List.getElem?_append_left hk], fun j oj hj => ?_⟩
    cases j with
    | zero =>
      simp at hj
      subst hj
      rw [Nat.add_zero, h2 acc.length (by simp)]
      have : (ancs l (acc ++ [ancStep acc o.after.toList])).take acc.length = acc := by
        apply List.ext_getElem?
        intro k
        rw [List.getElem?_take]
        split
        · rename_i hk; rw [h2 k (by simp; omega), List.getElem?_append_left hk]
        · rename_i hk; rw [List.getElem?_eq_none (by omega)]
      rw [this]
      simp
    | succ j =>
      simp at hj
      have := h3 j oj hj
      simp only [List.length_append, List.length_cons, List.length_nil] at this
      rw [show acc.length + (0 + 1) + j = acc.length + (j + 1) by omega] at this
      exact this

theorem ancStep_bit {acc : List Nat} {i : Nat} : ∀ {l : List Edge}, (ancStep acc l).testBit i = true → ∃ e ∈ l, Region.binds .any e = true ∧ (e.on = i ∨ (acc.getD e.on 0).testBit i = true)
  | [], h => by simp [ancStep] at h
  | e :: l, h => by
    simp only [ancStep] at h
    split at h
    · rename_i hb
      simp only [Nat.testBit_or, Bool.or_eq_true, Nat.testBit_two_pow, decide_eq_true_eq] at h
      rcases h with h | h | h
      · exact ⟨e, by simp, hb, .inl h⟩
      · exact ⟨e, by simp, hb, .inr h⟩
      · obtain ⟨e', h1, h2⟩ := ancStep_bit h; exact ⟨e', by simp [h1], h2⟩
    · obtain ⟨e', h1, h2⟩ := ancStep_bit h; exact ⟨e', by simp [h1], h2⟩

/-- A set of operations with all that must come ahead of them. -/
def Clo (ops : Array Oper) (p : Nat → Bool) : Prop := ∀ (j : Nat) o, ops[j]? = some o → p j = true → ∀ e ∈ o.after, Region.binds .any e = true → p e.on = true

theorem clo_anc {p : Nat → Bool} (hp : Clo ops p) {i : Nat} : ∀ (n j : Nat), j < n → j < ops.size → p j = true → ((ancs ops.toList []).getD j 0).testBit i = true → p i = true := by
  intro n
  induction n with
  | zero => intro j h; omega
  | succ n ih =>
    intro j _ hjs hpj hbit
    obtain ⟨h1, _, h3⟩ := ancs_spec ops.toList []
    have ho : ops.toList[j]? = some ops[j] := by simp [hjs]
    have := h3 j _ ho
    simp only [List.length_nil, Nat.zero_add] at this
    rw [List.getD_eq_getElem?_getD, this, Option.getD_some] at hbit
    obtain ⟨e, he, hb, h⟩ := ancStep_bit hbit
    have hpe := hp j ops[j] (by simp [hjs]) hpj e (by simpa using he) hb
    rcases h with rfl | h
    · exact hpe
    · rw [List.getD_eq_getElem?_getD, List.getElem?_take] at h
      split at h
      · rename_i hlt
        exact ih e.on (by omega) (by omega) hpe (by rw [List.getD_eq_getElem?_getD]; exact h)
      · simp at h

theorem rowOk_spec {oj : Oper} {m : Nat} : ∀ {l : List Oper} {i0 : Nat}, rowOk sep ops oj m l i0 = true → ∀ (k : Nat) oi, l[k]? = some oi → m.testBit (i0 + k) = true ∨ pairOk sep ops oi oj = true
  | [], i0, _, k, oi, h => by simp at h
  | o :: l, i0, h, k, oi, hk => by
    simp only [rowOk, Bool.and_eq_true, Bool.or_eq_true] at h
    cases k with
    | zero => simp at hk; subst hk; exact h.1
    | succ k =>
      simp at hk
      have := rowOk_spec h.2 k oi hk
      rwa [show i0 + 1 + k = i0 + (k + 1) by omega] at this

theorem rowsOk_spec {A : List Nat} : ∀ {l : List Oper} {j0 : Nat}, rowsOk sep ops A l j0 = true → ∀ (k : Nat) oj, l[k]? = some oj → (∀ e ∈ oj.after, Region.binds .any e = true → e.on < j0 + k) ∧ rowOk sep ops oj (A.getD (j0 + k) 0) (ops.toList.take (j0 + k)) 0 = true
  | [], j0, _, k, oj, h => by simp at h
  | o :: l, j0, h, k, oj, hk => by
    simp only [rowsOk, Bool.and_eq_true] at h
    cases k with
    | zero =>
      simp at hk
      subst hk
      refine ⟨fun e he hb => ?_, h.1.2⟩
      have := h.1.1
      rw [Array.all_eq_true_iff_forall_mem] at this
      have := this e he
      simpa [hb] using this
    | succ k =>
      simp at hk
      have := rowsOk_spec h.2 k oj hk
      rwa [show j0 + 1 + k = j0 + (k + 1) by omega] at this

theorem draw_spec (h : drawOk sep ops = true) : (∀ (j : Nat) o, ops[j]? = some o → ∀ e ∈ o.after, Region.binds .any e = true → e.on < j) ∧
    ∀ (i j : Nat) oi oj, i < j → ops[i]? = some oi → ops[j]? = some oj → ((ancs ops.toList []).getD j 0).testBit i = true ∨ pairOk sep ops oi oj = true := by
  unfold drawOk at h
  rw [Bool.and_eq_true] at h
  replace h := h.1
  refine ⟨fun j o ho e he hb => ?_, fun i j oi oj hij hi hj => ?_⟩
  · have := (rowsOk_spec h j o (by simpa using ho)).1 e he hb; simpa using this
  · have := (rowsOk_spec h j oj (by simpa using hj)).2
    rw [Nat.zero_add] at this
    have := rowOk_spec this i oi (by rw [List.getElem?_take, if_pos hij]; simpa using hi)
    rwa [Nat.zero_add] at this

variable {P : Program} {items : List (Item P)} {ow : List Nat}

noncomputable def stepAt (P : Program) (items : List (Item P)) (ow : List Nat) (ops : Array Oper) (i : Nat) (s : AS) : Option AS := match ops[i]? with
  | some o => absStep P items ow ops i o s
  | none => none
noncomputable def runI (P : Program) (items : List (Item P)) (ow : List Nat) (ops : Array Oper) : List Nat → AS → Option AS
  | [], s => some s
  | i :: l, s => (stepAt P items ow ops i s).bind (runI P items ow ops l)

theorem runI_append (l m : List Nat) (s : AS) : runI P items ow ops (l ++ m) s = (runI P items ow ops l s).bind (runI P items ow ops m) := by
  induction l generalizing s with
  | nil => rfl
  | cons i l ih =>
    simp only [List.cons_append, runI]
    cases stepAt P items ow ops i s with
    | none => rfl
    | some s1 => exact ih s1

theorem draw_sok (h : drawOk sep ops = true) (hz : ∀ x ∈ sep, szO P x.2.2 ≠ some 1) : Sok P sep ops := ⟨hz, fun j o ho x hx => by
  unfold drawOk at h
  rw [Bool.and_eq_true, List.all_eq_true] at h
  have h1 := h.2 o (by simpa using Array.mem_of_getElem? ho)
  rw [List.all_eq_true] at h1
  have h2 := h1 x hx
  simpa using h2⟩

theorem put_sep {s : AS} {d : Option Tmp} {t : TV} (hl : SepS sep s) (hd : ∀ x ∈ sep, d ≠ some x.1 ∧ d ≠ some x.2.1) : SepS sep (s.put d t) := fun x hx a r i j b r' i' j' h1 h2 => by
  rw [put_tmps s d t x.1 (fun e he hex => (hd x hx).1 (by rw [he, hex]))] at h1
  rw [put_tmps s d t x.2.1 (fun e he hex => (hd x hx).2 (by rw [he, hex]))] at h2
  exact hl x hx a r i j b r' i' j' h1 h2
theorem kill_ptr {k : Nat → Nat → Bool} {t : TV} {a r i j : Nat} (h : killTV k t = .one (.ptr a r i j)) : t = .one (.ptr a r i j) := by
  cases t with
  | one x => cases x <;> simp only [killTV, killAV] at h <;> (try split at h) <;> simp_all
  | agg cs => cases h
  | tup ts => cases h
theorem kill_sep {tm : List TV} {H H' : OH} {k : Nat → Nat → Bool} (hl : SepS sep ⟨tm, H⟩) : SepS sep ⟨tm.map (killTV k), H'⟩ := fun x hx a r i j b r' i' j' h1 h2 => by
  simp only [List.getElem?_map] at h1 h2
  obtain ⟨t1, g1, g2⟩ := Option.map_eq_some_iff.1 h1
  obtain ⟨t2, g3, g4⟩ := Option.map_eq_some_iff.1 h2
  rw [kill_ptr g2] at g1
  rw [kill_ptr g4] at g3
  exact hl x hx a r i j b r' i' j' g1 g3
theorem lvS_step (hS : Sok P sep ops) {i : Nat} {o : Oper} {s s1 : AS} (ho : ops[i]? = some o) (hl : LvS sep s) (h : absStep P items ow ops i o s = some s1) : LvS sep s1 := by
  refine ⟨absStep_live hl.1 h, ?_⟩
  have hd := hS.2 i o ho
  rw [absStep_out] at h
  obtain ⟨out, _, h⟩ := Option.bind_eq_some_iff.1 h
  cases out with
  | val t => simp only [appOut] at h; injection h with h; subst h; exact put_sep hl.2 hd
  | new t o' l =>
    simp only [appOut] at h
    split at h
    · rename_i e he
      split at h
      · injection h with h; subst h
        rw [← he]
        exact put_sep (s := ⟨s.tmps, _⟩) hl.2 hd
      · cases h
    · cases h
  | wr q => simp only [appOut] at h; injection h with h; subst h; exact put_sep (kill_sep (H := s.H) hl.2) hd

theorem runI_live (hS : Sok P sep ops) {l : List Nat} {s s' : AS} (hl : LvS sep s) (h : runI P items ow ops l s = some s') : LvS sep s' := by
  induction l generalizing s with
  | nil => simp only [runI] at h; injection h with h; subst h; exact hl
  | cons i l ih =>
    simp only [runI] at h
    obtain ⟨s1, h1, h2⟩ := Option.bind_eq_some_iff.1 h
    unfold stepAt at h1
    split at h1
    · rename_i o ho
      exact ih (lvS_step hS ho hl h1) h2
    · cases h1

theorem map_killF (tm : List TV) : tm.map (killTV fun _ _ => false) = tm := by
  conv => rhs; rw [← List.map_id tm]
  exact List.map_congr_left fun t _ => killTV_false t

theorem store_wide {s : AS} {t : TypeId} {ad x : Operand} {q : DRes} (hn : szO P t ≠ some 1) (h : effD P s.ev s.H (.store t ad x) = some q) : ∃ b r i j F, s.ev ad = some (.one (.ptr b r i j)) ∧ q = ⟨.undef, updH s.H b F, fun _ _ => false⟩ := by
  simp only [effD] at h
  split at h
  · rename_i a r i j n had hsz
    have hn1 : n ≠ 1 := fun e => hn (by rw [hsz, e])
    split at h
    · split at h
      · split at h
        · split at h
          · split at h
            · rename_i hc; exact absurd hc.1 hn1
            · cases h
          · split at h
            · split at h
              · rename_i hc; exact absurd hc.2.2.2.1 hn1
              · cases h
            · cases h
        · split at h
          · split at h
            · injection h with h; exact ⟨a, r, i, j, _, had, h.symm⟩
            · cases h
          · cases h
        · cases h
      · cases h
    · cases h
  · cases h

theorem sep_swap (hS : Sok P sep ops) {i j : Nat} {oi oj : Oper} {s s1 s' : AS} (hp : sepOk sep oi oj = true) (hl : LvS sep s) (hij : NoLook ops oj oi.dst) (hji : NoLook ops oi oj.dst) (hd : ∀ k, oi.dst = some k → oj.dst ≠ some k)
    (h1 : absStep P items ow ops i oi s = some s1) (h2 : absStep P items ow ops j oj s1 = some s') : ∃ s2, absStep P items ow ops j oj s = some s2 ∧ absStep P items ow ops i oi s2 = some s' := by
  unfold sepOk at hp
  split at hp
  · rename_i ty p t q x eqi eqj
    simp only [Bool.and_eq_true] at hp
    obtain ⟨⟨hm, gi⟩, gj⟩ := hp
    have hm : (p, q, t) ∈ sep := by simpa using hm
    have gi : oi.guard = none := by simpa using gi
    have gj : oj.guard = none := by simpa using gj
    rw [absStep_out] at h1 h2
    obtain ⟨ui, hui, h1⟩ := Option.bind_eq_some_iff.1 h1
    obtain ⟨uj, huj, h2⟩ := Option.bind_eq_some_iff.1 h2
    have so : ∀ s, stepOut P items ow ops i oi s = (effR P s.ev s.H oi.op).map .val := fun s => by
      unfold stepOut gate outOp
      rw [gi]
      simp only
      rw [eqi]
      simp only [isM, isR, Bool.false_eq_true, if_false, if_true]
    rw [so] at hui
    obtain ⟨tv, htv, rfl⟩ := Option.map_eq_some_iff.1 hui
    simp only [appOut] at h1
    injection h1 with h1
    subst h1
    rw [stepOut_put hij] at huj
    have huj' := huj
    unfold stepOut gate outOp at huj'
    rw [gj] at huj'
    simp only at huj'
    rw [eqj] at huj'
    simp only [isM, isR, Bool.false_eq_true, if_false] at huj'
    split at huj'
    · rename_i qq hqq
      injection huj' with huj'
      subst huj'
      obtain ⟨b, r', i', j', F, hb, rfl⟩ := store_wide (hS.1 _ hm) hqq
      simp only [appOut] at h2
      injection h2 with h2
      subst h2
      refine ⟨_, by rw [absStep_out, huj]; rfl, ?_⟩
      rw [absStep_out, stepOut_put hji, so]
      simp only [map_killF]
      have e : effR P (AS.ev ⟨s.tmps, updH s.H b F⟩) (updH s.H b F) oi.op = some tv := by
        rw [← htv]
        refine (effR_congr (fun y hy => ?_) (fun y hy tt ht => ?_)).symm
        · cases y <;> rfl
        · rw [eqi] at hy
          have hy : y = .tmp p := by simpa [Op.operands] using hy
          subst hy
          cases tt with
          | one z =>
            cases z with
            | ptr a r i0 j0 =>
              have := hl.2 _ hm a r i0 j0 b r' i' j' ht hb
              exact updH_ne (fun hab => this hab.symm)
            | sl a r off len => simp only [eqi, effR, ht] at htv; cases htv
            | p y => trivial
            | junk => trivial
          | agg cs => simp only [eqi, effR, ht] at htv; cases htv
          | tup ts => simp only [eqi, effR, ht] at htv; cases htv
      rw [e]
      simp only [Option.map_some, Option.bind_some, appOut]
      rw [put_comm' _ _ _ (fun k hk hk' => hd k hk' (by rw [hk]))]
      congr 2
      cases oi.dst <;> rfl
    · split at huj'
      · cases huj'
      · simp only [effA, outA] at huj'; cases huj'
  · cases hp

theorem pair_swap (hS : Sok P sep ops) {i j : Nat} {oi oj : Oper} {s s1 s' : AS} (hp : pairOk sep ops oi oj = true) (hl : LvS sep s) (h1 : absStep P items ow ops i oi s = some s1) (h2 : absStep P items ow ops j oj s1 = some s') :
    ∃ s2, absStep P items ow ops j oj s = some s2 ∧ absStep P items ow ops i oi s2 = some s' := by
  unfold pairOk at hp
  simp only [Bool.and_eq_true, Bool.or_eq_true] at hp
  obtain ⟨ha, hc⟩ := hp
  obtain ⟨a1, a2, a3⟩ := Oper.apart_spec ha
  rcases hc with hc | hc
  case inr => exact sep_swap hS hc hl (fun e he => a1 e he) (fun e he => a3 e he) (fun k hk => a2 k hk) h1 h2
  refine swap_step hl.1 (fun e he => a1 e he) (fun e he => a3 e he) (fun k hk => a2 k hk) ?_ h1 h2
  rcases hc with (hc | hc) | hc
  · exact .inl hc
  · exact .inr (.inl hc)
  · exact .inr (.inr ⟨noD_spec hc.1, noD_spec hc.2⟩)

/-- An operation may go behind those that it does not touch. -/
theorem bubble (hS : Sok P sep ops) {i : Nat} {oi : Oper} (hi : ops[i]? = some oi) : ∀ {l : List Nat} {s s' : AS}, LvS sep s → (∀ j ∈ l, ∃ oj, ops[j]? = some oj ∧ pairOk sep ops oi oj = true) → runI P items ow ops (i :: l) s = some s' →
    ∃ sm, runI P items ow ops l s = some sm ∧ stepAt P items ow ops i sm = some s'
  | [], s, s', _, _, h => by
    simp only [runI] at h
    obtain ⟨s1, h1, h2⟩ := Option.bind_eq_some_iff.1 h
    injection h2 with h2
    subst h2
    exact ⟨s, rfl, h1⟩
  | j :: l, s, s', hl, hj, h => by
    simp only [runI] at h
    obtain ⟨s1, h1, h⟩ := Option.bind_eq_some_iff.1 h
    obtain ⟨s2, h2, h3⟩ := Option.bind_eq_some_iff.1 h
    obtain ⟨oj, hoj, hp⟩ := hj j (by simp)
    unfold stepAt at h1 h2
    rw [hi] at h1
    rw [hoj] at h2
    obtain ⟨t1, g1, g2⟩ := pair_swap hS hp hl h1 h2
    have hr : runI P items ow ops (i :: l) t1 = some s' := by
      simp only [runI, stepAt, hi]
      rw [g2]
      exact h3
    obtain ⟨sm, k1, k2⟩ := bubble hS hi (lvS_step hS hoj hl g1) (fun j hj' => hj j (by simp [hj'])) hr
    refine ⟨sm, ?_, k2⟩
    simp only [runI, stepAt, hoj]
    rw [g1]
    exact k1

def sel (n : Nat) (p : Nat → Bool) : List Nat := (List.range n).filter p
def addP (p : Nat → Bool) (i : Nat) : Nat → Bool := fun j => j == i || p j

theorem sel_split {n i : Nat} (hi : i < n) (p : Nat → Bool) (hp : p i = false) :
    sel n p = (List.range i).filter p ++ (List.range' (i + 1) (n - i - 1)).filter p ∧ sel n (addP p i) = (List.range i).filter p ++ i :: (List.range' (i + 1) (n - i - 1)).filter p := by
  have hr : List.range n = List.range i ++ i :: List.range' (i + 1) (n - i - 1) := by
    have h1 := List.range'_append_1 (s := 0) (m := i) (n := n - i - 1 + 1)
    rw [show i + (n - i - 1 + 1) = n by omega, Nat.zero_add, List.range'_succ] at h1
    rw [List.range_eq_range', List.range_eq_range']
    exact h1.symm
  unfold sel
  rw [hr]
  simp only [List.filter_append, List.filter_cons, hp]
  refine ⟨by simp, ?_⟩
  have e1 : (List.range i).filter (addP p i) = (List.range i).filter p := List.filter_congr fun j hj => by
    have : j ≠ i := by have := List.mem_range.1 hj; omega
    simp [addP, this]
  have e2 : (List.range' (i + 1) (n - i - 1)).filter (addP p i) = (List.range' (i + 1) (n - i - 1)).filter p := List.filter_congr fun j hj => by
    have : j ≠ i := by have := (List.mem_range'_1.1 hj).1; omega
    simp [addP, this]
  rw [e1, e2]
  simp [addP]

/-- From the set with i to the set without it. -/
theorem sel_step (hS : Sok P sep ops) (hd : drawOk sep ops = true) {p : Nat → Bool} (hc : Clo ops p) {i : Nat} (hi : i < ops.size) (hp : p i = false) {s0 s' : AS} (hl : LvS sep s0) (h : runI P items ow ops (sel ops.size (addP p i)) s0 = some s') :
    ∃ sm, runI P items ow ops (sel ops.size p) s0 = some sm ∧ stepAt P items ow ops i sm = some s' := by
  obtain ⟨e1, e2⟩ := sel_split hi p hp
  rw [e2, runI_append] at h
  obtain ⟨s1, h1, h2⟩ := Option.bind_eq_some_iff.1 h
  have ho : ops[i]? = some ops[i] := by simp [hi]
  obtain ⟨sm, k1, k2⟩ := bubble hS ho (runI_live hS hl h1) (fun j hj => by
    obtain ⟨hj1, hj2⟩ := List.mem_filter.1 hj
    obtain ⟨hj3, hj4⟩ := List.mem_range'_1.1 hj1
    have hjn : j < ops.size := by omega
    refine ⟨ops[j], by simp [hjn], ?_⟩
    rcases (draw_spec hd).2 i j ops[i] ops[j] (by omega) ho (by simp [hjn]) with hb | hb
    · exact absurd (clo_anc hc (j + 1) j (by omega) hjn hj2 hb) (by simp [hp])
    · exact hb) h2
  refine ⟨sm, ?_, k2⟩
  rw [e1, runI_append, h1]
  exact k1

theorem clo_add {p : Nat → Bool} (hc : Clo ops p) {i : Nat} (h : ∀ o, ops[i]? = some o → ∀ e ∈ o.after, Region.binds .any e = true → p e.on = true) : Clo ops (addP p i) := fun j o ho hj e he hb => by
  by_cases hji : j = i
  · subst hji; simp [addP, h o ho e he hb]
  · have : p j = true := by simpa [addP, hji] using hj
    simp [addP, hc j o ho this e he hb]

theorem least_missing {n : Nat} {p : Nat → Bool} : (∀ j, j < n → p j = true) ∨ ∃ i, i < n ∧ p i = false ∧ ∀ j, j < i → p j = true := by
  by_cases h : ∃ i, i < n ∧ p i = false
  · obtain ⟨i, ⟨hi1, hi2⟩, hi3⟩ := exists_least h
    refine .inr ⟨i, hi1, hi2, fun j hj => ?_⟩
    cases hpj : p j with
    | true => rfl
    | false => have := hi3 j ⟨by omega, hpj⟩; omega
  · refine .inl fun j hj => ?_
    cases hpj : p j with
    | true => rfl
    | false => exact absurd ⟨j, hj, hpj⟩ h

/-- Every closed set can be carried out. -/
theorem sel_runs (hS : Sok P sep ops) (hd : drawOk sep ops = true) {s0 sF : AS} (hl : LvS sep s0) (hF : runI P items ow ops (List.range ops.size) s0 = some sF) : ∀ (m : Nat) (p : Nat → Bool), ((List.range ops.size).filter fun j => !p j).length ≤ m → Clo ops p → ∃ s, runI P items ow ops (sel ops.size p) s0 = some s := by
  intro m
  induction m with
  | zero =>
    intro p hm _
    have hall : ∀ j, j < ops.size → p j = true := fun j hj => by
      cases hpj : p j with
      | true => rfl
      | false =>
        have : j ∈ (List.range ops.size).filter fun j => !p j := List.mem_filter.2 ⟨List.mem_range.2 hj, by simp [hpj]⟩
        have h0 := List.length_eq_zero_iff.1 (Nat.le_zero.1 hm)
        rw [h0] at this
        simp at this
    refine ⟨sF, ?_⟩
    unfold sel
    rw [List.filter_eq_self.2 (fun j hj => hall j (List.mem_range.1 hj))]
    exact hF
  | succ m ih =>
    intro p hm hc
    rcases least_missing (n := ops.size) (p := p) with hall | ⟨i, hi, hpi, hlt⟩
    · refine ⟨sF, ?_⟩
      unfold sel
      rw [List.filter_eq_self.2 (fun j hj => hall j (List.mem_range.1 hj))]
      exact hF
    · have hc' : Clo ops (addP p i) := clo_add hc fun o ho e he hb => hlt _ ((draw_spec hd).1 i o ho e he hb)
      have hcount : ((List.range ops.size).filter fun j => !addP p i j).length ≤ m := by
        have hsub : ((List.range ops.size).filter fun j => !p j).length = ((List.range ops.size).filter fun j => !addP p i j).length + 1 := by
          obtain ⟨e1, e2⟩ := sel_split hi (fun j => !addP p i j) (by simp [addP])
          have e3 : sel ops.size (addP (fun j => !addP p i j) i) = (List.range ops.size).filter fun j => !p j := List.filter_congr fun j _ => by
            by_cases hji : j = i
            · subst hji; simp [addP, hpi]
            · have : (j == i) = false := by simpa using hji
              simp only [addP, this, Bool.false_or]
          rw [← e3, e2]
          show _ = (sel ops.size fun j => !addP p i j).length + 1
          rw [e1]
          simp
          omega
        omega
      obtain ⟨s, hs⟩ := ih (addP p i) hcount hc'
      obtain ⟨sm, h1, _⟩ := sel_step hS hd hc hi hpi hl hs
      exact ⟨sm, h1⟩

theorem runL_runI : ∀ (l : List Oper) (k : Nat) (s : AS), (∀ (j : Nat) o, l[j]? = some o → ops[k + j]? = some o) → runL P items ow ops (l.zipIdx k) s = runI P items ow ops (List.range' k l.length) s
  | [], k, s, _ => rfl
  | o :: l, k, s, h => by
    simp only [List.zipIdx_cons, runL, List.length_cons, List.range'_succ, runI]
    have ho : ops[k]? = some o := by have := h 0 o rfl; simpa using this
    unfold stepAt
    rw [ho]
    simp only
    cases absStep P items ow ops k o s with
    | none => rfl
    | some s1 =>
      simp only [Option.bind_some]
      exact runL_runI l (k + 1) s1 (fun j o hj => by have := h (j + 1) o (by simpa using hj); rwa [show k + (j + 1) = k + 1 + j by omega] at this)

/-- Whatever order is drawn. -/
theorem any_order (hS : Sok P sep ops) (hd : drawOk sep ops = true) {w0 : World} {O X : Nat → Prop} {Q : Exit → Act → World → Prop} {s0 sF : AS} (hl : LvS sep s0) (hF : runI P items ow ops (List.range ops.size) s0 = some sF) (hQ : ∀ a w, Rel w0 O X sF a w → Q .normal a w) :
    ∀ (fuel : Nat) (listed : Array Bool) (sL : AS) (a : Act) (w : World), listed.size = ops.size → Clo ops (fun j => listed.getD j true) → ((List.range ops.size).filter fun j => !listed.getD j true).length ≤ fuel → runI P items ow ops (sel ops.size fun j => listed.getD j true) s0 = some sL → Rel w0 O X sL a w →
      wpAny P .any ops Q fuel listed a w := by
  have allQ : ∀ (listed : Array Bool) (sL : AS) (a : Act) (w : World), (∀ j, j < ops.size → listed.getD j true = true) → runI P items ow ops (sel ops.size fun j => listed.getD j true) s0 = some sL → Rel w0 O X sL a w → Q .normal a w := fun listed sL a w hall hs hr => by
    unfold sel at hs
    rw [List.filter_eq_self.2 (fun j hj => hall j (List.mem_range.1 hj)), hF] at hs
    injection hs with hs
    subst hs
    exact hQ a w hr
  have readyNil : ∀ listed : Array Bool, listed.size = ops.size → Region.ready .any ops listed = [] → ∀ j, j < ops.size → listed.getD j true = true := fun listed hsz hr => by
    rcases least_missing (n := ops.size) (p := fun j => listed.getD j true) with hall | ⟨i, hi, hpi, hlt⟩
    · exact hall
    · exfalso
      have : i ∈ Region.ready .any ops listed := mem_ready.2 ⟨hpi, ops[i], by simp [hi], fun e he hb => by
        have hlt' := (draw_spec hd).1 i ops[i] (by simp [hi]) e he hb
        have := hlt e.on hlt'
        have hes : e.on < listed.size := by omega
        simp [hes] at this ⊢
        exact this⟩
      rw [hr] at this
      cases this
  intro fuel
  induction fuel with
  | zero =>
    intro listed sL a w hsz hc hm hs hr
    have hall : ∀ j, j < ops.size → listed.getD j true = true := fun j hj => by
      cases hpj : listed.getD j true with
      | true => rfl
      | false =>
        have : j ∈ (List.range ops.size).filter fun j => !listed.getD j true := List.mem_filter.2 ⟨List.mem_range.2 hj, by rw [hpj]; rfl⟩
        have h0 := List.length_eq_zero_iff.1 (Nat.le_zero.1 hm)
        rw [h0] at this
        simp at this
    refine ⟨?_, allQ listed sL a w hall hs hr⟩
    cases hrd : Region.ready .any ops listed with
    | nil => rfl
    | cons i l =>
      exfalso
      have hi : i ∈ Region.ready .any ops listed := by rw [hrd]; simp
      obtain ⟨h0, o, ho, _⟩ := mem_ready.1 hi
      rw [hall i (Array.getElem?_eq_some_iff.1 ho).1] at h0
      cases h0
  | succ fuel ih =>
    intro listed sL a w hsz hc hm hs hr
    refine ⟨fun hrd => allQ listed sL a w (readyNil listed hsz hrd) hs hr, fun i hi => ?_⟩
    obtain ⟨h0, o, ho, hdeps⟩ := mem_ready.1 hi
    have hin : i < ops.size := (Array.getElem?_eq_some_iff.1 ho).1
    have hset : (fun j => (listed.setIfInBounds i true).getD j true) = addP (fun j => listed.getD j true) i := by
      funext j
      by_cases hji : j = i
      · subst hji; simp [addP, hsz, hin]
      · rw [getD_set_ne true (Ne.symm hji)]; simp [addP, hji]
    have hc' : Clo ops (addP (fun j => listed.getD j true) i) := clo_add hc fun o' ho' e he hb => by
      rw [ho] at ho'
      injection ho' with ho'
      subst ho'
      have h1 := hdeps e he hb
      have hes : e.on < listed.size := by
        rcases Nat.lt_or_ge e.on listed.size with h | h
        · exact h
        · simp [Array.getElem?_eq_none h] at h1
      simp [hes] at h1 ⊢
      exact h1
    obtain ⟨s1, hs1⟩ := sel_runs hS hd hl hF _ (addP (fun j => listed.getD j true) i) (Nat.le_refl _) hc'
    obtain ⟨sm, k1, k2⟩ := sel_step hS hd hc hin h0 hl hs1
    rw [hs] at k1
    injection k1 with k1
    subst k1
    unfold stepAt at k2
    rw [ho] at k2
    have hcount : ((List.range ops.size).filter fun j => !(listed.setIfInBounds i true).getD j true).length ≤ fuel := by
      have e0 : ((List.range ops.size).filter fun j => !(listed.setIfInBounds i true).getD j true) = sel ops.size fun j => !addP (fun j => listed.getD j true) i j := by rw [← hset]; rfl
      rw [e0]
      obtain ⟨e1, e2⟩ := sel_split hin (fun j => !addP (fun j => listed.getD j true) i j) (by simp [addP])
      have e3 : sel ops.size (addP (fun j => !addP (fun j => listed.getD j true) i j) i) = (List.range ops.size).filter fun j => !listed.getD j true := List.filter_congr fun j _ => by
        by_cases hji : j = i
        · subst hji; simp only [addP, beq_self_eq_true, Bool.true_or, Bool.not_true]; rw [h0]; rfl
        · have : (j == i) = false := by simpa using hji
          simp only [addP, this, Bool.false_or]
      have hlen : ((List.range ops.size).filter fun j => !listed.getD j true).length = (sel ops.size fun j => !addP (fun j => listed.getD j true) i j).length + 1 := by
        rw [← e3, e2, e1]; simp; omega
      omega
    have hstep := absStep_wp (Q := Q) hr k2 (K := wpAny P .any ops Q fuel (listed.setIfInBounds i true)) (fun v w' hr' => ih (listed.setIfInBounds i true) s1 _ _ (by simpa using hsz) (by rw [hset]; exact hc') hcount (by rw [hset]; exact hs1) hr')
    unfold wpOp
    rw [ho]
    simp only
    split at hstep
    · rename_i hw; rw [if_pos hw]; exact .inl hstep
    · rename_i hw; rw [if_neg hw]; exact hstep

/-- A region that draws its order, in a program under 'wide'. -/
theorem WpA_drawn (hm : P.follows .mixedOrders = true) (items : List (Item P)) (ow : List Nat) {id : Nat} (hd : drawOk sep ops = true) (hz : ∀ x ∈ sep, szO P x.2.2 ≠ some 1) {s : AS} (hs : SepS sep s) {Q : Exit → AS → Prop} (hl : s.tmps.length ≤ 1000000) (h : runS P items ow (prepL ops ops.toList 0) (some s) (Q .normal)) : WpA P (.region id ops true) Q s := by
  obtain ⟨sF, h1, h2⟩ := runS_sound P items ow ops ops.toList 0 s (Q .normal) hl h
  intro w0 O X a w r
  refine wp_region_any hm ?_
  have hF : runI P items ow ops (List.range ops.size) s = some sF := by
    rw [List.range_eq_range']
    have := runL_runI (P := P) (items := items) (ow := ow) ops.toList 0 s (fun j o hj => by simpa using hj)
    rw [h1] at this
    simpa using this.symm
  have hr' : Rel w0 O X s a { w with drawn := w.drawn + 1 } := by
    obtain ⟨q1, q2, ρ, hinv, htm⟩ := r
    have e : Ext w { w with drawn := w.drawn + 1 } := ⟨rfl, rfl, rfl, Nat.le_refl _, fun _ _ => rfl⟩
    have htm : TmRel X ρ s a w := htm
    exact ⟨q1, q2, ρ, hinv.grow e, htm.grow e⟩
  refine any_order (draw_sok hd hz) hd ⟨live_of_rel r, hs⟩ hF (Q := fun e a' w' => ∃ s', Q e s' ∧ Rel w0 O X s' a' w') (fun a w hr => ⟨sF, h2, hr⟩) ops.size (Array.replicate ops.size false) s a _ (by simp) ?_ ?_ ?_ hr'
  · intro j o ho hp
    have hj : j < ops.size := (Array.getElem?_eq_some_iff.1 ho).1
    simp [hj] at hp
  · exact Nat.le_trans (List.length_filter_le _ _) (by simp)
  · have : sel ops.size (fun j => (Array.replicate ops.size false).getD j true) = [] := by
      unfold sel
      rw [List.filter_eq_nil_iff]
      intro j hj
      have := List.mem_range.1 hj
      simp [this]
    rw [this]
    rfl

theorem WpA_sdraw (hm : P.follows .mixedOrders = true) (items : List (Item P)) (ow : List Nat) {id : Nat} {y : Code} (hd : drawOk [] ops = true) {s : AS} {Q : Exit → AS → Prop} (hl : s.tmps.length ≤ 1000000) (h : ∀ K : AS → Prop, (∀ s', WpA P y Q s' → K s') → runS P items ow (prepL ops ops.toList 0) (some s) K) : WpA P (.seq (.region id ops true) y) Q s :=
  WpA_seq (WpA_drawn hm items ow hd (by simp) (fun x hx => by simp at hx) hl (h _ fun _ h => h))
theorem WpA_ldraw (hm : P.follows .mixedOrders = true) (items : List (Item P)) (ow : List Nat) {id : Nat} (hd : drawOk [] ops = true) {s : AS} {Q : Exit → AS → Prop} (hl : s.tmps.length ≤ 1000000) (h : ∀ K : AS → Prop, (∀ s', Q .normal s' → K s') → runS P items ow (prepL ops ops.toList 0) (some s) K) : WpA P (.region id ops true) Q s :=
  WpA_drawn hm items ow hd (by simp) (fun x hx => by simp at hx) hl (h _ fun _ h => h)
/-- .. with loads and stores that are known to name other rows. -/
theorem WpA_ssep (sep : List (Nat × Nat × Nat)) (hm : P.follows .mixedOrders = true) (items : List (Item P)) (ow : List Nat) {id : Nat} {y : Code} (hd : drawOk sep ops = true) (hz : ∀ x ∈ sep, szO P x.2.2 ≠ some 1) {s : AS} (hs : SepS sep s) {Q : Exit → AS → Prop} (hl : s.tmps.length ≤ 1000000) (h : ∀ K : AS → Prop, (∀ s', WpA P y Q s' → K s') → runS P items ow (prepL ops ops.toList 0) (some s) K) : WpA P (.seq (.region id ops true) y) Q s :=
  WpA_seq (WpA_drawn hm items ow hd hz hs hl (h _ fun _ h => h))
end
end Go.Proofs.YtennjcjjegbhgaaGreat
