/-
  The walk of quadformref09.Same.
-/
import Derived.Test.YtennjcjjegbhgaaOrder
import Derived.Test.YtennjcjjegbhgaaWalkB
namespace Go.Proofs.Ytennjcjjegbhgaa
open Go.RowKit

theorem rdI_drewN {k : IntKind} {w : World} {A : Option Addr} {x : List Int} {n : Nat} (h : RdI k w A x) : RdI k (w.drewN n) A x := h.ext ((Ext.refl _).drewN n)

set_option maxRecDepth 100000 in
set_option maxHeartbeats 1000000 in
theorem same_any (A B : Option Addr) (c d : Nat) (a b : List (List Int)) (w : World) (ha : RdM .i64 w A a) (hb : RdM .i64 w B b) (la : a.length ≤ 9223372036854775807) (lb : b.length ≤ 9223372036854775807) :
    Calls Try.prog 17 #[.slice A a.length c, .slice B b.length d] w fun e w' => e = .returned (.bool (decide (a = b))) ∧ Ext w w' := by
  have HA := Lib.hid ha
  have HB := Lib.hid hb
  clear ha hb
  by_cases hl : a.length = b.length
  · have hlb : ((a.length : Int) != (b.length : Int)) = false := by simp [hl]
    have HL := Lib.hid hl
    have hle : a.length ≤ b.length := by omega
    clear hl
    go_enter Try.func17, Try.ntmps17
    go_wp2_with fail
    clear hlb
    go_loopw [13, 5] (fun i _ wr => ∃ k : Nat, k ≤ a.length ∧ i = .int .i64 k ∧ Hid (Ext w wr) ∧ Hid (∀ j, j < k → a[j]? = b[j]?)) (fun i _ _ => a.length - (intOf i).toNat)
    case atStart => exact ⟨0, Nat.zero_le _, rfl, Lib.hid (Ext.refl _), Lib.hid (fun j h => by omega)⟩
    case round =>
      obtain ⟨k, hk, rfl, HE, HQ⟩ := hrel
      by_cases hlt : k < a.length
      · obtain ⟨x, hx⟩ := getElem?_of_lt hlt
        obtain ⟨y, hy⟩ := getElem?_of_lt (l := b) (k := k) (by omega)
        obtain ⟨b1, o1, B1, c1, rfl, hc1, hcl1, hlx, hr1⟩ := (HA.out.ext HE.out.drew).at_ hx
        obtain ⟨b2, o2, B2, c2, rfl, hc2, hcl2, hly, hr2⟩ := (HB.out.ext HE.out.drew).at_ hy
        have HX := Lib.hid hx
        have HY := Lib.hid hy
        have HR1 := Lib.hid hr1
        have HR2 := Lib.hid hr2
        have HE1 := Lib.hid HE.out.drew
        have hkb : (k : Int) < (b.length : Int) := by omega
        clear hx hy hr1 hr2 HE
        go_wp2_with fail
        refine region_still_tail 8 (by kernel_rfl) (by kernel_rfl) ?_
        simp only [List.take_succ_cons, List.take_zero, List.drop_succ_cons, List.drop_zero]
        generalize wr.drew = w3 at *
        iterate 8 still_step
        refine wpStill_nil ?_
        have HC := Lib.hid (refCompare_any B1 B2 c1 c2 x y w3 HR1.out HR2.out hlx hly)
        clear hc1 hc2
        by_cases h0 : cmpL x y = 0
        · have h0' : (cmpL x y != 0) = false := by simp [h0]
          have H0 := Lib.hid h0
          clear h0
          go_wp2_with fail
          refine HC.out.mono ?_
          rintro e w4 ⟨rfl, n, rfl⟩
          go_wp2_with fail
          go_roundw
          case rel =>
            refine ⟨k + 1, by omega, by go_num, Lib.hid (HE1.out.drewN n), Lib.hid (fun j hj => ?_)⟩
            by_cases e : j = k
            · subst e; rw [HX.out, HY.out, cmpL_eq H0.out]
            · exact HQ.out j (by omega)
          case measure => simp [intOf]; omega
        · have h0' : (cmpL x y != 0) = true := by simp [h0]
          go_wp2_with fail
          refine HC.out.mono ?_
          rintro e w4 ⟨rfl, n, rfl⟩
          go_wp2_with fail
          go_ret
          refine ⟨ret_undec (fun h => ?_), HE1.out.drewN n⟩
          subst h
          have h1 := HX.out
          rw [HY.out] at h1
          cases h1
          exact h0 (cmpL_self _)
      · go_wp2_with fail
        go_ret
        refine ⟨ret_dec ?_, HE.out⟩
        apply List.ext_getElem?
        intro j
        rcases Nat.lt_or_ge j a.length with h | h
        · exact HQ.out j (by omega)
        · rw [List.getElem?_eq_none h, List.getElem?_eq_none (by have := HL.out; omega)]
  · have hlb : ((a.length : Int) != (b.length : Int)) = true := by simp; omega
    go_enter Try.func17, Try.ntmps17
    go_wp2_with fail
    go_ret
    exact ⟨ret_undec (fun h => hl (by rw [h])), Ext.refl _⟩

end Go.Proofs.Ytennjcjjegbhgaa
