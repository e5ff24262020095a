/-
  The walks of cmp.Or and vector.compareByNorm.
-/
import Derived.Test.YtennjcjjegbhgaaWalkA
import Derived.Test.YtennjcjjegbhgaaApp
import Derived.StillTailTactics
import Derived.Sort.Grow
import Derived.Deep.DeepFit
namespace Go.Proofs.Ytennjcjjegbhgaa
open Go.RowKit

/-- The first entry that is not 0. -/
def orL : List Int → Int
  | [] => 0
  | a :: l => if a != 0 then a else orL l
theorem orL_drop {x : List Int} {k : Nat} {a : Int} (h : x[k]? = some a) : orL (x.drop k) = if a != 0 then a else orL (x.drop (k + 1)) := by
  obtain ⟨h1, rfl⟩ := List.getElem?_eq_some_iff.1 h
  rw [List.drop_eq_getElem_cons h1]
  rfl

set_option maxHeartbeats 400000 in
theorem cmpOr_any (A : Option Addr) (c : Nat) (x : List Int) (w : World) (hx : RdI .i64 w A x) (lx : x.length ≤ 9223372036854775807) :
    Calls Try.prog 35 #[.slice A x.length c] w fun e w' => e = .returned (.int .i64 (orL x)) ∧ w = w' := by
  have HX := Lib.hid hx
  clear hx
  go_enter Try.func35, Try.ntmps35
  go_wp2_with fail
  go_loop [8, 5] (fun i _ => ∃ k : Nat, k ≤ x.length ∧ i = .int .i64 k ∧ Hid (orL (x.drop k) = orL x)) (fun i _ => x.length - (intOf i).toNat)
  case atStart => exact ⟨0, Nat.zero_le _, rfl, Lib.hid rfl⟩
  case round =>
    obtain ⟨k, hk, rfl, HR⟩ := hrel
    by_cases hlt : k < x.length
    · obtain ⟨a, ha⟩ := getElem?_of_lt hlt
      obtain ⟨b, off, rfl, hc⟩ := HX.out.at_ ha
      have HA := Lib.hid (orL_drop ha)
      clear ha
      by_cases h0 : (a != 0) = true
      · go_wp2_with fail
        go_ret
        exact ⟨ret_int (by rw [← HR.out, HA.out, if_pos h0]), rfl⟩
      · have h0' : (a != 0) = false := by simpa using h0
        have H0 := Lib.hid h0'
        clear h0
        go_wp2_with fail
        go_round
        case rel => exact ⟨k + 1, by omega, by go_num, Lib.hid (by rw [← HR.out, HA.out, if_neg (by rw [H0.out]; simp)])⟩
        case measure => simp [intOf]; omega
    · go_wp2_with fail
      go_ret
      exact ⟨ret_int (by rw [← HR.out, List.drop_of_length_le (by omega)]; rfl), rfl⟩

theorem cmpCompare_same (a b : Int) (w : World) :
    Calls Try.prog 24 #[.int .i64 a, .int .i64 b] w fun e w' => e = .returned (.int .i64 (cmpI a b)) ∧ w' = w :=
  (cmpCompare_any a b w).mono fun _ _ ⟨h1, h2⟩ => ⟨h1, h2.symm⟩
theorem vecCompare_same (A B : Option Addr) (c d : Nat) (x y : List Int) (w : World) (hx : RdI .i64 w A x) (hy : RdI .i64 w B y) (lx : x.length ≤ 9223372036854775807) (ly : y.length ≤ 9223372036854775807) :
    Calls Try.prog 6 #[.slice A x.length c, .slice B y.length d] w fun e w' => e = .returned (.int .i64 (cmpL x y)) ∧ w' = w :=
  (vecCompare_any A B c d x y w hx hy lx ly).mono fun _ _ ⟨h1, h2⟩ => ⟨h1, h2.symm⟩

/-- The order of compareByNorm. -/
def cmpN (k1 : Int) (x : List Int) (k2 : Int) (y : List Int) : Int := orL [cmpI k1 k2, cmpL x y]

theorem region_still_tail {P : Program} {id : Nat} {Q : Exit → Act → World → Prop} {a : Act} {w : World} {l : List Oper} (n : Nat) (hm : P.follows .mixedOrders = true) (hB : Region.lexTailB .any l.toArray n = true)
    (h : wpStill P l.toArray w.drew (fun a' => wpList P l.toArray Q (l.drop n) a' w.drew) (l.take n) a) : (Code.region id l.toArray true).wp P Q a w := wp_region_still_tail n hm hB h

theorem grow_alloc (w : World) (os : Array Obj) (o : Obj) : (Sort.grow w os).alloc o = Sort.grow w (os.push o) := by
  unfold Sort.grow World.alloc; simp
theorem grow_two (w : World) (a b : Obj) : ((w.alloc a).alloc b).drew = Sort.grow (w.drewN 1) #[a, b] := by
  unfold Sort.grow
  rw [show (w.drewN 1).heap ++ #[a, b] = (w.heap.push a).push b from by
    show w.heap ++ #[a, b] = _
    apply Array.ext'
    simp]
  rfl
theorem two_boxes (w : World) (a b c d : Value) (t : TypeId) :
    ((w.alloc (.cells #[a, b] t)).alloc (.cells #[c, d] t)).drew.cell? ⟨w.heap.size, 0, none⟩ = some a ∧ ((w.alloc (.cells #[a, b] t)).alloc (.cells #[c, d] t)).drew.cell? ⟨w.heap.size, 1, none⟩ = some b ∧
    ((w.alloc (.cells #[a, b] t)).alloc (.cells #[c, d] t)).drew.cell? ⟨w.heap.size + 1, 0, none⟩ = some c ∧ ((w.alloc (.cells #[a, b] t)).alloc (.cells #[c, d] t)).drew.cell? ⟨w.heap.size + 1, 1, none⟩ = some d ∧
    Ext w ((w.alloc (.cells #[a, b] t)).alloc (.cells #[c, d] t)).drew ∧ ∃ os, ((w.alloc (.cells #[a, b] t)).alloc (.cells #[c, d] t)).drew = Sort.grow (w.drewN 1) os :=
  ⟨by go_simp, by go_simp, by go_simp, by go_simp, (((Ext.refl _).alloc _).alloc _).drew, _, grow_two w _ _⟩

set_option maxRecDepth 100000 in
set_option maxHeartbeats 1000000 in
theorem compareByNorm_any (k1 k2 : Int) (A B : Option Addr) (c d : Nat) (x y : List Int) (w : World) (hx : RdI .i64 w A x) (hy : RdI .i64 w B y) (lx : x.length ≤ 9223372036854775807) (ly : y.length ≤ 9223372036854775807) :
    Calls Try.prog 26 #[.agg #[.int .i64 k1, .slice A x.length c], .agg #[.int .i64 k2, .slice B y.length d]] w fun e w' =>
      e = .returned (.int .i64 (cmpN k1 x k2 y)) ∧ ∃ q os, w' = Sort.grow (w.drewN q) os := by
  have HX := Lib.hid hx
  have HY := Lib.hid hy
  clear hx hy
  go_enter Try.func26, Try.ntmps26
  go_wp2_with fail
  obtain ⟨c1, c2, c3, c4, he, hg⟩ := two_boxes w (.int .i64 k1) (.slice A x.length c) (.int .i64 k2) (.slice B y.length d) 59
  have HE := Lib.hid he
  have HG := Lib.hid hg
  clear he hg
  generalize (w.alloc (.cells #[.int .i64 k1, .slice A x.length c] 59)).alloc (.cells #[.int .i64 k2, .slice B y.length d] 59) = w2 at *
  refine region_still_tail 10 (by kernel_rfl) (by kernel_rfl) ?_
  simp only [List.take_succ_cons, List.take_zero, List.drop_succ_cons, List.drop_zero]
  generalize w2.drew = w3 at *
  iterate 4 still_step
  still_call (cmpCompare_same _ _ _)
  iterate 4 still_step
  still_call (vecCompare_same A B c d x y _ (HX.out.ext HE.out) (HY.out.ext HE.out) lx ly)
  refine wpStill_nil ?_
  have hor := cmpOr_any (some ⟨w3.heap.size, 0, none⟩) 2 [cmpI k1 k2, cmpL x y] (w3.alloc (.cells #[.int .i64 (cmpI k1 k2), .int .i64 (cmpL x y)] 3)) (fun _ => ⟨w3.heap.size, 0, rfl, fun i v hv => by
    match i, hv with
    | 0, hv => simp at hv; subst hv; go_simp
    | 1, hv => simp at hv; subst hv; go_simp⟩) (by simp)
  rw [show [cmpI k1 k2, cmpL x y].length = 2 from rfl] at hor
  have HOR := Lib.hid hor
  clear hor
  go_wp2_with fail
  refine HOR.out.mono ?_
  rintro e w' ⟨rfl, rfl⟩
  go_wp2_with fail
  go_ret
  obtain ⟨os, rfl⟩ := HG.out
  exact ⟨rfl, 1, _, grow_alloc _ _ _⟩

end Go.Proofs.Ytennjcjjegbhgaa
