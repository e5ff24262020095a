/-
  The walks of vector.Valid, vector.Inner and vector.Norm.
-/
import Derived.Test.YtennjcjjegbhgaaPlainA
namespace Go.Proofs.Ytennjcjjegbhgaa
open Go.RowKit

def validM (rows : List (List Int)) (x : List Int) : Bool := isReducedM rows && FitB rows.length x

set_option maxHeartbeats 400000 in
theorem valid_any (A B : Option Addr) (c d : Nat) (rows : List (List Int)) (x : List Int) (w : World) (hR : RdM .i64 w A rows) (hx : RdI .i64 w B x) (lr : rows.length ≤ 9223372036854775807) (hc : rows.length ≤ c) (lx : x.length ≤ 9223372036854775807) :
    Calls Try.prog 41 #[.slice A rows.length c, .slice B x.length d] w fun e w' => e = .returned (.bool (validM rows x)) ∧ Ext w w' := by
  have HR := Lib.hid hR
  have HX := Lib.hid hx
  clear hR hx
  cases hI : isReducedM rows with
  | false =>
    have HV : Hid (validM rows x = false) := Lib.hid (by simp [validM, hI])
    go_enter Try.func41, Try.ntmps41
    go_wp2_with (go_at_call 25; refine (isReduced_any A c rows _ HR.out lr hc).mono ?_; rintro e w1 ⟨rfl, he⟩)
    go_ret
    exact ⟨ret_bool HV.out.symm, he⟩
  | true =>
    have HV : Hid (validM rows x = FitB rows.length x) := Lib.hid (by simp [validM, hI])
    go_enter Try.func41, Try.ntmps41
    go_wp2_with (first | (go_at_call 25; refine (isReduced_any A c rows _ HR.out lr hc).mono ?_; rintro e w1 ⟨rfl, he⟩; have HE := Lib.hid he; clear he) | (go_at_call 27; refine (fits_any rows.length B d x _ (HX.out.ext HE.out) lx).mono ?_; rintro e w2 ⟨rfl, rfl⟩))
    go_ret
    exact ⟨ret_bool HV.out.symm, HE.out⟩

/-- What Inner answers. -/
def innerV (rows : List (List Int)) (x y : List Int) : Value :=
  if validM rows x = true ∧ FitB rows.length y = true then dotV (accZ x (applyM rows y) x.length) else .tuple #[.int .i64 0, .bool false]

set_option maxHeartbeats 1000000 in
theorem inner_any (A B C : Option Addr) (c d d' : Nat) (rows : List (List Int)) (x y : List Int) (w : World) (hR : RdM .i64 w A rows) (hx : RdI .i64 w B x) (hy : RdI .i64 w C y) (lr : rows.length ≤ 9223372036854775807) (hc : rows.length ≤ c) (lx : x.length ≤ 9223372036854775807) (ly : y.length ≤ 9223372036854775807) :
    Calls Try.prog 31 #[.slice A rows.length c, .slice B x.length d, .slice C y.length d'] w fun e w' => e = .returned (innerV rows x y) ∧ Ext w w' := by
  have HR := Lib.hid hR
  have HX := Lib.hid hx
  have HY := Lib.hid hy
  clear hR hx hy
  cases hI : validM rows x with
  | false =>
    have HV : Hid (innerV rows x y = .tuple #[.int .i64 0, .bool false]) := Lib.hid (by unfold innerV; rw [if_neg (by simp [hI])])
    go_enter Try.func31, Try.ntmps31
    go_wp2_with (go_at_call 41; refine (valid_any A B c d rows x _ HR.out HX.out lr hc lx).mono ?_; rintro e w1 ⟨rfl, he⟩)
    go_ret2
    exact ⟨by rw [HV.out]; rfl, he⟩
  | true =>
    cases hF : FitB rows.length y with
    | false =>
      have HV : Hid (innerV rows x y = .tuple #[.int .i64 0, .bool false]) := Lib.hid (by unfold innerV; rw [if_neg (by simp [hF])])
      go_enter Try.func31, Try.ntmps31
      go_wp2_with (first | (go_at_call 41; refine (valid_any A B c d rows x _ HR.out HX.out lr hc lx).mono ?_; rintro e w1 ⟨rfl, he⟩; have HE := Lib.hid he; clear he) | (go_at_call 27; refine (fits_any rows.length C d' y _ (HY.out.ext HE.out) ly).mono ?_; rintro e w2 ⟨rfl, rfl⟩))
      go_ret2
      exact ⟨by rw [HV.out]; rfl, HE.out⟩
    | true =>
      have HV : Hid (innerV rows x y = dotV (accZ x (applyM rows y) x.length)) := Lib.hid (by unfold innerV; rw [if_pos ⟨hI, hF⟩])
      have hI' := hI
      unfold validM at hI'
      rw [Bool.and_eq_true, FitB_iff] at hI'
      obtain ⟨hr, hxl, hxb⟩ := hI'
      have hs := isReducedM_small hr
      have h8 : rows.length ≤ 8 := hs.2.1
      obtain ⟨hyl, hyb⟩ := FitB_iff.1 hF
      have hxle : x.length ≤ rows.length := by omega
      have hxge : rows.length ≤ x.length := by omega
      have hyge : rows.length ≤ y.length := by omega
      have HS := Lib.hid hs
      have HYB := Lib.hid hyb
      have HXB := Lib.hid hxb
      have HA := Lib.hid (applyM_bd hs hyb)
      have HAL := Lib.hid (applyM_length rows y)
      clear hr hxl hs hyl hyb hxb
      go_enter Try.func31, Try.ntmps31
      go_wp2_with (first | (go_at_call 41; refine (valid_any A B c d rows x _ HR.out HX.out lr hc lx).mono ?_; rintro e w1 ⟨rfl, he⟩; have HE := Lib.hid he; clear he) | (go_at_call 27; refine (fits_any rows.length C d' y _ (HY.out.ext HE.out) ly).mono ?_; rintro e w2 ⟨rfl, rfl⟩))
      refine (apply_any A C c d' rows y _ (HR.out.ext HE.out) (HY.out.ext HE.out) (by omega) (fun i hi => by rw [HS.out.2.2.1 i hi]; exact hyge) ly).mono ?_
      rintro e w2 ⟨rfl, hrd, he2⟩
      have HE2 := Lib.hid (HE.out.trans he2)
      have HRD := Lib.hid hrd
      clear hrd he2
      go_wp2_with fail
      have hcon := dot_any B (some ⟨w1.heap.size, 0, none⟩) d rows.length x (applyM rows y) w2 (HX.out.ext HE2.out) HRD.out (by rw [HAL.out]; exact hxle) (by omega) (by rw [HAL.out]; omega) (fun i z hz => InB_bounds HXB.out hz) HA.out
      rw [HAL.out] at hcon
      refine hcon.mono ?_
      rintro e w3 ⟨rfl, he3⟩
      have HE3 := Lib.hid (HE2.out.trans he3)
      clear he3 hcon
      have HD : Hid (∃ a b, dotV (accZ x (applyM rows y) x.length) = .tuple #[a, b]) := Lib.hid (by unfold dotV; split <;> exact ⟨_, _, rfl⟩)
      obtain ⟨va, vb, hd⟩ := HD.out
      rw [hd]
      have HDD := Lib.hid hd
      clear hd
      go_wp2_with fail
      go_ret2
      exact ⟨by rw [HV.out, HDD.out]; rfl, HE3.out⟩

set_option maxHeartbeats 400000 in
theorem norm_any (A B : Option Addr) (c d : Nat) (rows : List (List Int)) (x : List Int) (w : World) (hR : RdM .i64 w A rows) (hx : RdI .i64 w B x) (lr : rows.length ≤ 9223372036854775807) (hc : rows.length ≤ c) (lx : x.length ≤ 9223372036854775807) :
    Calls Try.prog 16 #[.slice A rows.length c, .slice B x.length d] w fun e w' => e = .returned (innerV rows x x) ∧ Ext w w' := by
  have HD : Hid (∃ a b, innerV rows x x = .tuple #[a, b]) := Lib.hid (by unfold innerV dotV; split <;> (try split) <;> exact ⟨_, _, rfl⟩)
  have hcon := inner_any A B B c d d rows x x w hR hx hx lr hc lx lx
  obtain ⟨va, vb, hd⟩ := HD.out
  rw [hd] at hcon
  rw [hd]
  have HC := Lib.hid hcon
  clear hcon hd HD
  go_enter Try.func16, Try.ntmps16
  go_wp2_with (go_at_call 31; refine HC.out.mono ?_; rintro e w1 ⟨rfl, he⟩)
  go_ret2
  exact ⟨rfl, he⟩

end Go.Proofs.Ytennjcjjegbhgaa
