/-
  The walks of math/bits.Add64, Sub64, Mul64 at this program, of (wide).add and (wide).minus.
-/
import Derived.Test.YtennjcjjegbhgaaMem
import Derived.Shelf.Spec.BitsCarry
import Derived.Shelf.Bits.Mul64
namespace Go.Proofs.Ytennjcjjegbhgaa
open Go.RowKit

theorem add64_run (x y c : Int) (hx : 0 ≤ x) (hx' : x < 18446744073709551616) (hy : 0 ≤ y) (hy' : y < 18446744073709551616) (hc0 : 0 ≤ c) (hc : c ≤ 1) (w : World) : (callFunc 43 #[.int .u64 x, .int .u64 y, .int .u64 c]).run Try.prog w =
    .ok (.value (.tuple #[.int .u64 ((x + y + c) % 18446744073709551616), .int .u64 ((x + y + c) / 18446744073709551616)])) w := by
  obtain ⟨x, rfl⟩ := Int.eq_ofNat_of_zero_le hx
  obtain ⟨y, rfl⟩ := Int.eq_ofNat_of_zero_le hy
  obtain ⟨c, rfl⟩ := Int.eq_ofNat_of_zero_le hc0
  rw [run_callFunc_extern Try.func43 (by kernel_rfl) (by kernel_rfl) (by kernel_rfl) (e := add64Entry) (by kernel_rfl), run_add64 x y c (by omega) (by omega) (by omega) (by omega)]
  rfl

theorem sub64_run (x y b : Int) (hx : 0 ≤ x) (hy : 0 ≤ y) (hy' : y < 18446744073709551616) (hb0 : 0 ≤ b) (hb : b ≤ 1) (w : World) : (callFunc 44 #[.int .u64 x, .int .u64 y, .int .u64 b]).run Try.prog w =
    .ok (.value (.tuple #[.int .u64 ((x - y - b) % 18446744073709551616), .int .u64 (if x < y + b then 1 else 0)])) w := by
  obtain ⟨x, rfl⟩ := Int.eq_ofNat_of_zero_le hx
  obtain ⟨y, rfl⟩ := Int.eq_ofNat_of_zero_le hy
  obtain ⟨b, rfl⟩ := Int.eq_ofNat_of_zero_le hb0
  have e1 : (((x + 18446744073709551616 - y - b) % 18446744073709551616 : Nat) : Int) = ((x : Int) - y - b) % 18446744073709551616 := by omega
  have e2 : ((if x < y + b then 1 else 0 : Nat) : Int) = if (x : Int) < y + b then 1 else 0 := by split <;> split <;> omega
  rw [← e1, ← e2]
  rw [run_callFunc_extern Try.func44 (by kernel_rfl) (by kernel_rfl) (by kernel_rfl) (e := sub64Entry) (by kernel_rfl), run_sub64 x y b (by omega)]
  rfl

set_option maxHeartbeats 1000000 in
theorem mul64_nat (x y : Nat) (hx : x < 18446744073709551616) (hy : y < 18446744073709551616) (w : World) :
    Calls Try.prog 42 #[.int .u64 x, .int .u64 y] w fun e w' => e = .returned (.tuple #[.int .u64 ((x * y / 18446744073709551616 : Nat) : Int), .int .u64 ((x * y % 18446744073709551616 : Nat) : Int)]) ∧ w = w' := by
  obtain ⟨bd, bt, bw, hhi⟩ := Lib.mul64_hi x y hx hy
  have ba := Lib.half_mul_le (a := x / 4294967296) (b := y / 4294967296) (by omega) (by omega)
  have bb := Lib.half_mul_le (a := x / 4294967296) (b := y % 4294967296) (by omega) (by omega)
  have bc := Lib.half_mul_le (a := x % 4294967296) (b := y / 4294967296) (by omega) (by omega)
  have ba' : x / 4294967296 * (y / 4294967296) < 18446744073709551616 := by omega
  have bb' : x / 4294967296 * (y % 4294967296) < 18446744073709551616 := by omega
  have bc' : x % 4294967296 * (y / 4294967296) < 18446744073709551616 := by omega
  have bh1 : x / 4294967296 * (y / 4294967296) + (x / 4294967296 * (y % 4294967296) + x % 4294967296 * (y % 4294967296) / 4294967296) / 4294967296 < 18446744073709551616 := by omega
  have bh : x / 4294967296 * (y / 4294967296) + (x / 4294967296 * (y % 4294967296) + x % 4294967296 * (y % 4294967296) / 4294967296) / 4294967296 + ((x / 4294967296 * (y % 4294967296) + x % 4294967296 * (y % 4294967296) / 4294967296) % 4294967296 + x % 4294967296 * (y / 4294967296)) / 4294967296 < 18446744073709551616 := by omega
  go_enter Try.func42, Try.ntmps42
  go_wp2
  simp only [Mul64.maskN x hx, Mul64.maskN y hy, Mul64.divN, Mul64.mulN, Mul64.addN, Mul64.wrapN _ bd, Mul64.wrapN _ bb', Mul64.wrapN _ bt, Mul64.maskN _ bt, Mul64.wrapN _ bc', Mul64.wrapN _ bw, Mul64.wrapN _ ba', Mul64.wrapN _ bh1, Mul64.wrapN _ bh, Mul64.wrapM (x * y)]
  rw [hhi]
  go_ret2
  exact ⟨rfl, rfl⟩

/-- A natural number below 2^128 as a 'wide'. -/
def wd (n : Nat) : Value := .agg #[.int .u64 ((n / 18446744073709551616 : Nat) : Int), .int .u64 ((n % 18446744073709551616 : Nat) : Int)]

theorem wadd_hi (n p : Nat) (h : n + p < 340282366920938463463374607431768211456) :
    (((n / 18446744073709551616 : Nat) : Int) + ((p / 18446744073709551616 : Nat) : Int) + (((n % 18446744073709551616 : Nat) : Int) + ((p % 18446744073709551616 : Nat) : Int)) / 18446744073709551616) % 18446744073709551616 = (((n + p) / 18446744073709551616 : Nat) : Int) := by omega
theorem wadd_lo (n p : Nat) :
    (((n % 18446744073709551616 : Nat) : Int) + ((p % 18446744073709551616 : Nat) : Int)) % 18446744073709551616 = (((n + p) % 18446744073709551616 : Nat) : Int) := by omega

theorem add64_run0 (x y : Int) (hx : 0 ≤ x) (hx' : x < 18446744073709551616) (hy : 0 ≤ y) (hy' : y < 18446744073709551616) (w : World) : (callFunc 43 #[.int .u64 x, .int .u64 y, .int .u64 0]).run Try.prog w =
    .ok (.value (.tuple #[.int .u64 ((x + y) % 18446744073709551616), .int .u64 ((x + y) / 18446744073709551616)])) w := by
  simpa using add64_run x y 0 hx hx' hy hy' (by omega) (by omega) w

set_option maxHeartbeats 1000000 in
theorem wideAdd_any (n x y : Nat) (hx : x < 18446744073709551616) (hy : y < 18446744073709551616) (hn : n + x * y < 340282366920938463463374607431768211456) (w : World) :
    Calls Try.prog 36 #[wd n, .int .u64 x, .int .u64 y] w fun e w' => e = .returned (wd (n + x * y)) ∧ Ext w w' := by
  have hp : x * y / 18446744073709551616 < 18446744073709551616 := by omega
  obtain ⟨nh, hnh⟩ : ∃ k : Nat, k = n / 18446744073709551616 := ⟨_, rfl⟩
  obtain ⟨nl, hnl⟩ : ∃ k : Nat, k = n % 18446744073709551616 := ⟨_, rfl⟩
  obtain ⟨ph, hph⟩ : ∃ k : Nat, k = x * y / 18446744073709551616 := ⟨_, rfl⟩
  obtain ⟨pl, hpl⟩ : ∃ k : Nat, k = x * y % 18446744073709551616 := ⟨_, rfl⟩
  have b1 : (nh : Int) < 18446744073709551616 := by omega
  have b2 : (nl : Int) < 18446744073709551616 := by omega
  have b3 : (ph : Int) < 18446744073709551616 := by omega
  have b4 : (pl : Int) < 18446744073709551616 := by omega
  have c1 : 0 ≤ ((nl : Int) + (pl : Int)) / 18446744073709551616 := by omega
  have c2 : ((nl : Int) + (pl : Int)) / 18446744073709551616 ≤ 1 := by omega
  have HM := Lib.hid (mul64_nat x y hx hy)
  have HLo : Hid (((nl : Int) + (pl : Int)) % 18446744073709551616 = ((n : Int) + (x : Int) * (y : Int)) % 18446744073709551616) := Lib.hid (by
    have := wadd_lo n (x * y); rw [← hnl, ← hpl] at this; rw [this]; simp)
  have HHi : Hid (((nh : Int) + (ph : Int) + ((nl : Int) + (pl : Int)) / 18446744073709551616) % 18446744073709551616 = ((n : Int) + (x : Int) * (y : Int)) / 18446744073709551616) := Lib.hid (by
    have := wadd_hi n (x * y) hn; rw [← hnl, ← hpl, ← hnh, ← hph] at this; rw [this]; simp)
  unfold wd
  rw [← hnh, ← hnl] at *
  rw [← hph, ← hpl] at *
  have e1 := add64_run0 nl pl (by omega) b2 (by omega) b4
  have e2 := add64_run nh ph _ (by omega) b1 (by omega) b3 c1 c2
  clear hnh hnl hph hpl hn hp
  go_enter Try.func36, Try.ntmps36
  go_wp2_with (first | (go_at_call 42; refine (HM.out _).mono ?_; rintro e w' ⟨rfl, rfl⟩) | simp only [e1] | simp only [e2])
  refine bodyPost_ret (v := .agg #[.int .u64 ((((n + x * y) / 18446744073709551616 : Nat) : Int)), .int .u64 ((((n + x * y) % 18446744073709551616 : Nat) : Int))]) ?_ rfl ⟨rfl, ?_⟩
  · simp [results, Try.results36, go_sem]
    exact ⟨HHi.out, HLo.out⟩
  · exact ((Ext.refl _).alloc _).alloc _

theorem wsub_ge {n m : Nat} (h : m ≤ n) : (n : Int) - m = ((n - m : Nat) : Int) := by omega

/-- What (wide).minus answers. -/
def wminus (n m : Nat) : Option Nat := if m ≤ n ∧ n - m ≤ 4611686018427387904 then some (n - m) else none
def wminusV (n m : Nat) : Value := match wminus n m with
  | some k => .tuple #[.int .i64 k, .bool true]
  | none => .tuple #[.int .i64 0, .bool false]

theorem wminusV_none {n m : Nat} (h : ¬ (m ≤ n ∧ n - m ≤ 4611686018427387904)) : wminusV n m = .tuple #[.int .i64 0, .bool false] := by
  unfold wminusV wminus; rw [if_neg h]
theorem wminusV_some {n m : Nat} (h : m ≤ n ∧ n - m ≤ 4611686018427387904) {d : Int} (hd : ((n - m : Nat) : Int) = d) : wminusV n m = .tuple #[.int .i64 d, .bool true] := by
  unfold wminusV wminus; rw [if_pos h, ← hd]

theorem sub64_run0 (x y : Int) (hx : 0 ≤ x) (hy : 0 ≤ y) (hy' : y < 18446744073709551616) (w : World) : (callFunc 44 #[.int .u64 x, .int .u64 y, .int .u64 0]).run Try.prog w =
    .ok (.value (.tuple #[.int .u64 ((x - y) % 18446744073709551616), .int .u64 (if x < y then 1 else 0)])) w := by
  simpa using sub64_run x y 0 hx hy hy' (by omega) (by omega) w

set_option maxHeartbeats 1000000 in
theorem wideMinus_any (n m : Nat) (hn : n < 340282366920938463463374607431768211456) (hm : m < 340282366920938463463374607431768211456) (w : World) :
    Calls Try.prog 37 #[wd n, wd m] w fun e w' => e = .returned (wminusV n m) ∧ Ext w w' := by
  obtain ⟨nh, hnh⟩ : ∃ k : Nat, k = n / 18446744073709551616 := ⟨_, rfl⟩
  obtain ⟨nl, hnl⟩ : ∃ k : Nat, k = n % 18446744073709551616 := ⟨_, rfl⟩
  obtain ⟨mh, hmh⟩ : ∃ k : Nat, k = m / 18446744073709551616 := ⟨_, rfl⟩
  obtain ⟨ml, hml⟩ : ∃ k : Nat, k = m % 18446744073709551616 := ⟨_, rfl⟩
  have b1 : (nh : Int) < 18446744073709551616 := by omega
  have b2 : (nl : Int) < 18446744073709551616 := by omega
  have b3 : (mh : Int) < 18446744073709551616 := by omega
  have b4 : (ml : Int) < 18446744073709551616 := by omega
  have HE : Hid (n = nh * 18446744073709551616 + nl ∧ m = mh * 18446744073709551616 + ml) := Lib.hid (by omega)
  obtain ⟨V, hV⟩ : ∃ V, V = wminusV n m := ⟨_, rfl⟩
  unfold wd
  rw [← hnh, ← hnl, ← hmh, ← hml, ← hV]
  have HV := Lib.hid hV
  clear hnh hnl hmh hml hV hn hm
  have e1 := sub64_run0 nl ml (by omega) (by omega) b4
  obtain ⟨b, hb⟩ : ∃ b : Int, b = if (nl : Int) < ml then 1 else 0 := ⟨_, rfl⟩
  have hb' : b = 0 ∧ (ml : Int) ≤ nl ∨ b = 1 ∧ (nl : Int) < ml := by rw [hb]; split <;> omega
  have hb0 : 0 ≤ b := by omega
  have hb1 : b ≤ 1 := by omega
  have e2 := sub64_run nh mh b (by omega) (by omega) b3 hb0 hb1
  rw [← hb] at e1
  clear hb
  obtain ⟨dl, hdl⟩ : ∃ k : Int, k = ((nl : Int) - ml) % 18446744073709551616 := ⟨_, rfl⟩
  obtain ⟨dh, hdh⟩ : ∃ k : Int, k = ((nh : Int) - mh - b) % 18446744073709551616 := ⟨_, rfl⟩
  obtain ⟨b2', hb2⟩ : ∃ k : Int, k = if (nh : Int) < mh + b then 1 else 0 := ⟨_, rfl⟩
  rw [← hdl] at e1
  rw [← hdh, ← hb2] at e2
  have d0 : 0 ≤ dl := by omega
  have d1 : dl < 18446744073709551616 := by omega
  have d2 : 0 ≤ dh := by omega
  have d3 : dh < 18446744073709551616 := by omega
  have HD := Lib.hid (And.intro hdl (And.intro hdh (And.intro hb2 hb')))
  clear hdl hdh hb2 hb'
  by_cases g1 : b2' = 0
  · have g1' : (b2' != 0) = false := by simp [g1]
    have G1 := Lib.hid g1
    clear g1
    by_cases g2 : dh = 0
    · have g2' : (dh != 0) = false := by simp [g2]
      have G2 := Lib.hid g2
      clear g2
      by_cases g3 : 4611686018427387904 < dl
      · go_enter Try.func37, Try.ntmps37
        go_wp2_with (first | simp only [e1] | simp only [e2])
        go_ret2
        refine ⟨?_, ((Ext.refl _).alloc _).alloc _⟩
        rw [HV.out]
        obtain ⟨q1, q2, q3, q4⟩ := HD.out
        obtain ⟨q5, q6⟩ := HE.out
        have q7 := G1.out; have q8 := G2.out
        (rw [wminusV_none (by split at q3 <;> omega)]) <;> rfl
      · go_enter Try.func37, Try.ntmps37
        go_wp2_with (first | simp only [e1] | simp only [e2])
        go_ret2
        refine ⟨?_, ((Ext.refl _).alloc _).alloc _⟩
        rw [HV.out]
        obtain ⟨q1, q2, q3, q4⟩ := HD.out
        obtain ⟨q5, q6⟩ := HE.out
        have q7 := G1.out; have q8 := G2.out
        (rw [wminusV_some (by split at q3 <;> omega) (d := dl) (by split at q3 <;> omega)]) <;> rfl
    · have g2' : (dh != 0) = true := by simp [g2]
      go_enter Try.func37, Try.ntmps37
      go_wp2_with (first | simp only [e1] | simp only [e2])
      go_ret2
      refine ⟨?_, ((Ext.refl _).alloc _).alloc _⟩
      rw [HV.out]
      obtain ⟨q1, q2, q3, q4⟩ := HD.out
      obtain ⟨q5, q6⟩ := HE.out
      have q7 := G1.out
      (rw [wminusV_none (by split at q3 <;> omega)]) <;> rfl
  · have g1' : (b2' != 0) = true := by simp [g1]
    go_enter Try.func37, Try.ntmps37
    go_wp2_with (first | simp only [e1] | simp only [e2])
    go_ret2
    refine ⟨?_, ((Ext.refl _).alloc _).alloc _⟩
    rw [HV.out]
    obtain ⟨q1, q2, q3, q4⟩ := HD.out
    obtain ⟨q5, q6⟩ := HE.out
    (rw [wminusV_none (by split at q3 <;> omega)]) <;> rfl

end Go.Proofs.Ytennjcjjegbhgaa
