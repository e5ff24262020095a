/-
  The walk of vector.dot.
-/
import Derived.Test.YtennjcjjegbhgaaWalkD
import Derived.Test.YtennjcjjegbhgaaMx
namespace Go.Proofs.Ytennjcjjegbhgaa
open Go.RowKit

theorem wideAdd_int (h l x y : Int) (h0 : 0 ≤ h) (h1 : h < 18446744073709551616) (l0 : 0 ≤ l) (l1 : l < 18446744073709551616) (x0 : 0 ≤ x) (x1 : x < 18446744073709551616) (y0 : 0 ≤ y) (y1 : y < 18446744073709551616)
    (hs : h * 18446744073709551616 + l + x * y < 340282366920938463463374607431768211456) (w : World) :
    Calls Try.prog 36 #[.agg #[.int .u64 h, .int .u64 l], .int .u64 x, .int .u64 y] w fun e w' =>
      ∃ h' l' : Int, e = .returned (.agg #[.int .u64 h', .int .u64 l']) ∧ 0 ≤ h' ∧ h' < 18446744073709551616 ∧ 0 ≤ l' ∧ l' < 18446744073709551616 ∧ h' * 18446744073709551616 + l' = h * 18446744073709551616 + l + x * y ∧ Ext w w' := by
  obtain ⟨h, rfl⟩ := Int.eq_ofNat_of_zero_le h0
  obtain ⟨l, rfl⟩ := Int.eq_ofNat_of_zero_le l0
  obtain ⟨x, rfl⟩ := Int.eq_ofNat_of_zero_le x0
  obtain ⟨y, rfl⟩ := Int.eq_ofNat_of_zero_le y0
  have key := wideAdd_any (h * 18446744073709551616 + l) x y (by omega) (by omega) (by omega) w
  have e1 : wd (h * 18446744073709551616 + l) = .agg #[.int .u64 (h : Int), .int .u64 (l : Int)] := by
    unfold wd
    rw [show (h * 18446744073709551616 + l) / 18446744073709551616 = h from by omega, show (h * 18446744073709551616 + l) % 18446744073709551616 = l from by omega]
  rw [e1] at key
  refine key.mono fun e w' ⟨he, hw⟩ => ?_
  have hnn : ((h * 18446744073709551616 + l + x * y : Nat) : Int) = (h : Int) * 18446744073709551616 + l + (x : Int) * y := by simp
  refine ⟨_, _, he, by omega, ?_, by omega, by omega, ?_, hw⟩
  · rw [← hnn] at hs; omega
  · rw [← hnn]; omega

theorem wideMinus_int (h l h2 l2 : Int) (h0 : 0 ≤ h) (h1 : h < 18446744073709551616) (l0 : 0 ≤ l) (l1 : l < 18446744073709551616) (x0 : 0 ≤ h2) (x1 : h2 < 18446744073709551616) (y0 : 0 ≤ l2) (y1 : l2 < 18446744073709551616) (w : World) :
    Calls Try.prog 37 #[.agg #[.int .u64 h, .int .u64 l], .agg #[.int .u64 h2, .int .u64 l2]] w fun e w' =>
      e = .returned (wminusV (h * 18446744073709551616 + l).toNat (h2 * 18446744073709551616 + l2).toNat) ∧ Ext w w' := by
  obtain ⟨h, rfl⟩ := Int.eq_ofNat_of_zero_le h0
  obtain ⟨l, rfl⟩ := Int.eq_ofNat_of_zero_le l0
  obtain ⟨h2, rfl⟩ := Int.eq_ofNat_of_zero_le x0
  obtain ⟨l2, rfl⟩ := Int.eq_ofNat_of_zero_le y0
  have key := wideMinus_any (h * 18446744073709551616 + l) (h2 * 18446744073709551616 + l2) (by omega) (by omega) w
  have e1 : ∀ h l : Nat, l < 18446744073709551616 → wd (h * 18446744073709551616 + l) = .agg #[.int .u64 (h : Int), .int .u64 (l : Int)] := fun h l hl => by
    unfold wd
    rw [show (h * 18446744073709551616 + l) / 18446744073709551616 = h from by omega, show (h * 18446744073709551616 + l) % 18446744073709551616 = l from by omega]
  rw [e1 h l (by omega), e1 h2 l2 (by omega)] at key
  rw [show ((h : Int) * 18446744073709551616 + l).toNat = h * 18446744073709551616 + l from by omega, show ((h2 : Int) * 18446744073709551616 + l2).toNat = h2 * 18446744073709551616 + l2 from by omega]
  exact key

/-- The exact sum of the first l products. -/
def accZ (x y : List Int) : Nat → Int
  | 0 => 0
  | l + 1 => accZ x y l + x.getD l 0 * y.getD l 0
def pair (h l : Int) : Nat → Value := fun j => if j = 0 then .int .u64 h else .int .u64 l
/-- What dot answers. -/
def dotV (s : Int) : Value := if -4611686018427387904 ≤ s ∧ s ≤ 4611686018427387904 then .tuple #[.int .i64 s, .bool true] else .tuple #[.int .i64 0, .bool false]

theorem prod_bd {a b : Int} (ha : a ≤ 1099511627776) (ha0 : 0 ≤ a) (hb : b ≤ 2305843009213693952) (hb0 : 0 ≤ b) : 0 ≤ a * b ∧ a * b ≤ 2535301200456458802993406410752 :=
  ⟨Int.mul_nonneg ha0 hb0, by
    have h1 : a * b ≤ 1099511627776 * b := Int.mul_le_mul_of_nonneg_right ha hb0
    omega⟩

set_option maxHeartbeats 1000000 in
theorem dot_any (A B : Option Addr) (c d : Nat) (x y : List Int) (w : World) (hx : RdI .i64 w A x) (hy : RdI .i64 w B y) (hl : x.length ≤ y.length) (hn : x.length ≤ 65536) (hly : y.length ≤ 9223372036854775807)
    (hbx : ∀ (i : Nat) z, x[i]? = some z → -1099511627776 ≤ z ∧ z ≤ 1099511627776) (hby : ∀ (i : Nat) z, y[i]? = some z → -2305843009213693952 ≤ z ∧ z ≤ 2305843009213693952) :
    Calls Try.prog 28 #[.slice A x.length c, .slice B y.length d] w fun e w' => e = .returned (dotV (accZ x y x.length)) ∧ Ext w w' := by
  have HX := Lib.hid hx
  have HY := Lib.hid hy
  have HBX := Lib.hid hbx
  have HBY := Lib.hid hby
  clear hx hy hbx hby
  go_enter Try.func28, Try.ntmps28
  go_wp2_with fail
  go_loopw [17, 8, 9, 10] (fun i _ _ _ wr => ∃ (k : Nat) (ph pl nh nl : Int), k ≤ x.length ∧ i = .int .i64 k ∧ 0 ≤ ph ∧ ph < 18446744073709551616 ∧ 0 ≤ pl ∧ pl < 18446744073709551616 ∧ 0 ≤ nh ∧ nh < 18446744073709551616 ∧ 0 ≤ nl ∧ nl < 18446744073709551616 ∧
      Hid (wr.rowIs w.heap.size 64 2 (pair ph pl)) ∧ Hid (wr.rowIs (w.heap.size + 1) 64 2 (pair nh nl)) ∧ Hid (Ext w wr) ∧
      Hid (ph * 18446744073709551616 + pl - (nh * 18446744073709551616 + nl) = accZ x y k ∧ ph * 18446744073709551616 + pl + (nh * 18446744073709551616 + nl) ≤ k * 2535301200456458802993406410752)) (fun i _ _ _ _ => x.length - (intOf i).toNat)
  case atStart =>
    refine ⟨0, 0, 0, 0, 0, Nat.zero_le _, rfl, by omega, by omega, by omega, by omega, by omega, by omega, by omega, by omega, Lib.hid ?_, Lib.hid ?_, Lib.hid (((Ext.refl _).alloc _).alloc _), Lib.hid ⟨rfl, by omega⟩⟩
    · refine (World.rowIs.alloc (World.rowIs_alloc w _ _ (pair 0 0) ?_) _)
      intro i hi
      match i, hi with
      | 0, _ => rfl
      | 1, _ => rfl
    · have := World.rowIs_alloc (w.alloc (.cells #[.int .u64 0, .int .u64 0] 64)) #[.int .u64 0, .int .u64 0] 64 (pair 0 0) (by
        intro i hi
        match i, hi with
        | 0, _ => rfl
        | 1, _ => rfl)
      simpa using this
  case round =>
    obtain ⟨k, ph, pl, nh, nl, hk, rfl, p0, p1, p2, p3, n0, n1, n2, n3, HP, HN, HE, HQ⟩ := hrel
    have t1 : wr.cell? ⟨w.heap.size, 0, none⟩ = some (.int .u64 ph) := HP.out.cell (by omega)
    have t2 : wr.cell? ⟨w.heap.size, 1, none⟩ = some (.int .u64 pl) := HP.out.cell (by omega)
    have t3 : wr.cell? ⟨w.heap.size + 1, 0, none⟩ = some (.int .u64 nh) := HN.out.cell (by omega)
    have t4 : wr.cell? ⟨w.heap.size + 1, 1, none⟩ = some (.int .u64 nl) := HN.out.cell (by omega)
    by_cases hlt : k < x.length
    · obtain ⟨a, ha⟩ := getElem?_of_lt hlt
      obtain ⟨b, off, rfl, hc⟩ := (HX.out.ext HE.out).at_ ha
      obtain ⟨a2, ha2⟩ := getElem?_of_lt (l := y) (k := k) (by omega)
      obtain ⟨b2, off2, rfl, hc2⟩ := (HY.out.ext HE.out).at_ ha2
      obtain ⟨ax0, ax1⟩ := HBX.out k a ha
      obtain ⟨ay0, ay1⟩ := HBY.out k a2 ha2
      have HS : Hid (accZ x y (k + 1) = accZ x y k + a * a2) := Lib.hid (by simp [accZ, List.getD_eq_getElem?_getD, ha, ha2])
      clear ha ha2
      have hky : (k : Int) < (y.length : Int) := by omega
      by_cases ga : 0 ≤ a
      · by_cases gb : 0 ≤ a2
        · have hp := prod_bd (a := a) (b := a2) (by omega) (by omega) (by omega) (by omega)
          have hq := HQ.out
          have hs : ph * 18446744073709551616 + pl + a * a2 < 340282366920938463463374607431768211456 := by omega
          have HM := Lib.hid (wideAdd_int ph pl (a) (a2) (by omega) (by omega) (by omega) (by omega) (by omega) (by omega) (by omega) (by omega) hs)
          clear hp hq hs
          go_wp2_with fail
          refine (HM.out _).mono ?_
          rintro e w1 ⟨h', l', rfl, q0, q1, q2, q3, q4, he⟩
          have HE1 := Lib.hid (HE.out.trans he)
          have HO1 := Lib.hid (rowIs_ext HP.out he)
          have HO2 := Lib.hid (rowIs_ext HN.out he)
          have HQ4 := Lib.hid q4
          have s1 : w1.cell? ⟨w.heap.size, 0, none⟩ = some (.int .u64 ph) := HO1.out.cell (by omega)
          have s2 : w1.cell? ⟨w.heap.size, 1, none⟩ = some (.int .u64 pl) := HO1.out.cell (by omega)
          have s3 : w1.frozen? ⟨w.heap.size, 0, none⟩ = false := HO1.out.frozen 0
          have s4 : w1.frozen? ⟨w.heap.size, 1, none⟩ = false := HO1.out.frozen 1
          clear q4 he HP HN HE HM t1 t2 t3 t4 hc hc2
          go_wp2_with fail
          go_roundw
          case rel =>
            refine ⟨k + 1, h', l', nh, nl, by omega, by go_num, by omega, by omega, by omega, by omega, by omega, by omega, by omega, by omega, Lib.hid ?_, Lib.hid ?_, Lib.hid ((HE1.out.setCell (by show w.heap.size ≤ w.heap.size; omega) _).setCell (by show w.heap.size ≤ w.heap.size; omega) _), Lib.hid ⟨by rw [HS.out]; have := HQ.out.1; have := HQ4.out; omega, by have := HQ.out.2; have := HQ4.out; have := prod_bd (a := a) (b := a2) (by omega) (by omega) (by omega) (by omega); omega⟩⟩
            · exact ((HO1.out.set 0 _).set 1 _).congr (fun j hj => by match j, hj with | 0, _ => rfl | 1, _ => rfl)
            · exact (HO2.out.setOther (by show w.heap.size + 1 ≠ w.heap.size; omega) _).setOther (by show w.heap.size + 1 ≠ w.heap.size; omega) _
          case measure => simp [intOf]; omega
        · have hp := prod_bd (a := a) (b := -a2) (by omega) (by omega) (by omega) (by omega)
          have hq := HQ.out
          have hs : nh * 18446744073709551616 + nl + a * -a2 < 340282366920938463463374607431768211456 := by omega
          have HM := Lib.hid (wideAdd_int nh nl (a) (-a2) (by omega) (by omega) (by omega) (by omega) (by omega) (by omega) (by omega) (by omega) hs)
          clear hp hq hs
          go_wp2_with fail
          refine (HM.out _).mono ?_
          rintro e w1 ⟨h', l', rfl, q0, q1, q2, q3, q4, he⟩
          have HE1 := Lib.hid (HE.out.trans he)
          have HO1 := Lib.hid (rowIs_ext HN.out he)
          have HO2 := Lib.hid (rowIs_ext HP.out he)
          have HQ4 := Lib.hid q4
          have s1 : w1.cell? ⟨w.heap.size + 1, 0, none⟩ = some (.int .u64 nh) := HO1.out.cell (by omega)
          have s2 : w1.cell? ⟨w.heap.size + 1, 1, none⟩ = some (.int .u64 nl) := HO1.out.cell (by omega)
          have s3 : w1.frozen? ⟨w.heap.size + 1, 0, none⟩ = false := HO1.out.frozen 0
          have s4 : w1.frozen? ⟨w.heap.size + 1, 1, none⟩ = false := HO1.out.frozen 1
          clear q4 he HP HN HE HM t1 t2 t3 t4 hc hc2
          go_wp2_with fail
          go_roundw
          case rel =>
            refine ⟨k + 1, ph, pl, h', l', by omega, by go_num, by omega, by omega, by omega, by omega, by omega, by omega, by omega, by omega, Lib.hid ?_, Lib.hid ?_, Lib.hid ((HE1.out.setCell (by show w.heap.size ≤ w.heap.size + 1; omega) _).setCell (by show w.heap.size ≤ w.heap.size + 1; omega) _), Lib.hid ⟨by rw [HS.out]; have := HQ.out.1; have := HQ4.out; have e : a * a2 = -(a * -a2) := (by rw [Int.mul_neg, Int.neg_neg]); omega, by have := HQ.out.2; have := HQ4.out; have := prod_bd (a := a) (b := -a2) (by omega) (by omega) (by omega) (by omega); omega⟩⟩
            · exact (HO2.out.setOther (by show w.heap.size ≠ w.heap.size + 1; omega) _).setOther (by show w.heap.size ≠ w.heap.size + 1; omega) _
            · exact ((HO1.out.set 0 _).set 1 _).congr (fun j hj => by match j, hj with | 0, _ => rfl | 1, _ => rfl)
          case measure => simp [intOf]; omega
      · by_cases gb : 0 ≤ a2
        · have hp := prod_bd (a := -a) (b := a2) (by omega) (by omega) (by omega) (by omega)
          have hq := HQ.out
          have hs : nh * 18446744073709551616 + nl + -a * a2 < 340282366920938463463374607431768211456 := by omega
          have HM := Lib.hid (wideAdd_int nh nl (-a) (a2) (by omega) (by omega) (by omega) (by omega) (by omega) (by omega) (by omega) (by omega) hs)
          clear hp hq hs
          go_wp2_with fail
          refine (HM.out _).mono ?_
          rintro e w1 ⟨h', l', rfl, q0, q1, q2, q3, q4, he⟩
          have HE1 := Lib.hid (HE.out.trans he)
          have HO1 := Lib.hid (rowIs_ext HN.out he)
          have HO2 := Lib.hid (rowIs_ext HP.out he)
          have HQ4 := Lib.hid q4
          have s1 : w1.cell? ⟨w.heap.size + 1, 0, none⟩ = some (.int .u64 nh) := HO1.out.cell (by omega)
          have s2 : w1.cell? ⟨w.heap.size + 1, 1, none⟩ = some (.int .u64 nl) := HO1.out.cell (by omega)
          have s3 : w1.frozen? ⟨w.heap.size + 1, 0, none⟩ = false := HO1.out.frozen 0
          have s4 : w1.frozen? ⟨w.heap.size + 1, 1, none⟩ = false := HO1.out.frozen 1
          clear q4 he HP HN HE HM t1 t2 t3 t4 hc hc2
          go_wp2_with fail
          go_roundw
          case rel =>
            refine ⟨k + 1, ph, pl, h', l', by omega, by go_num, by omega, by omega, by omega, by omega, by omega, by omega, by omega, by omega, Lib.hid ?_, Lib.hid ?_, Lib.hid ((HE1.out.setCell (by show w.heap.size ≤ w.heap.size + 1; omega) _).setCell (by show w.heap.size ≤ w.heap.size + 1; omega) _), Lib.hid ⟨by rw [HS.out]; have := HQ.out.1; have := HQ4.out; have e : a * a2 = -(-a * a2) := (by rw [Int.neg_mul, Int.neg_neg]); omega, by have := HQ.out.2; have := HQ4.out; have := prod_bd (a := -a) (b := a2) (by omega) (by omega) (by omega) (by omega); omega⟩⟩
            · exact (HO2.out.setOther (by show w.heap.size ≠ w.heap.size + 1; omega) _).setOther (by show w.heap.size ≠ w.heap.size + 1; omega) _
            · exact ((HO1.out.set 0 _).set 1 _).congr (fun j hj => by match j, hj with | 0, _ => rfl | 1, _ => rfl)
          case measure => simp [intOf]; omega
        · have hp := prod_bd (a := -a) (b := -a2) (by omega) (by omega) (by omega) (by omega)
          have hq := HQ.out
          have hs : ph * 18446744073709551616 + pl + -a * -a2 < 340282366920938463463374607431768211456 := by omega
          have HM := Lib.hid (wideAdd_int ph pl (-a) (-a2) (by omega) (by omega) (by omega) (by omega) (by omega) (by omega) (by omega) (by omega) hs)
          clear hp hq hs
          go_wp2_with fail
          refine (HM.out _).mono ?_
          rintro e w1 ⟨h', l', rfl, q0, q1, q2, q3, q4, he⟩
          have HE1 := Lib.hid (HE.out.trans he)
          have HO1 := Lib.hid (rowIs_ext HP.out he)
          have HO2 := Lib.hid (rowIs_ext HN.out he)
          have HQ4 := Lib.hid q4
          have s1 : w1.cell? ⟨w.heap.size, 0, none⟩ = some (.int .u64 ph) := HO1.out.cell (by omega)
          have s2 : w1.cell? ⟨w.heap.size, 1, none⟩ = some (.int .u64 pl) := HO1.out.cell (by omega)
          have s3 : w1.frozen? ⟨w.heap.size, 0, none⟩ = false := HO1.out.frozen 0
          have s4 : w1.frozen? ⟨w.heap.size, 1, none⟩ = false := HO1.out.frozen 1
          clear q4 he HP HN HE HM t1 t2 t3 t4 hc hc2
          go_wp2_with fail
          go_roundw
          case rel =>
            refine ⟨k + 1, h', l', nh, nl, by omega, by go_num, by omega, by omega, by omega, by omega, by omega, by omega, by omega, by omega, Lib.hid ?_, Lib.hid ?_, Lib.hid ((HE1.out.setCell (by show w.heap.size ≤ w.heap.size; omega) _).setCell (by show w.heap.size ≤ w.heap.size; omega) _), Lib.hid ⟨by rw [HS.out]; have := HQ.out.1; have := HQ4.out; have e : a * a2 = -a * -a2 := (by rw [Int.neg_mul_neg]); omega, by have := HQ.out.2; have := HQ4.out; have := prod_bd (a := -a) (b := -a2) (by omega) (by omega) (by omega) (by omega); omega⟩⟩
            · exact ((HO1.out.set 0 _).set 1 _).congr (fun j hj => by match j, hj with | 0, _ => rfl | 1, _ => rfl)
            · exact (HO2.out.setOther (by show w.heap.size + 1 ≠ w.heap.size; omega) _).setOther (by show w.heap.size + 1 ≠ w.heap.size; omega) _
          case measure => simp [intOf]; omega
    · have hkl : k = x.length := by omega
      have HK : Hid (ph * 18446744073709551616 + pl - (nh * 18446744073709551616 + nl) = accZ x y x.length) := Lib.hid (by have := HQ.out.1; rw [hkl] at this; exact this)
      obtain ⟨D, hD⟩ : ∃ D, D = accZ x y x.length := ⟨_, rfl⟩
      have HM := Lib.hid (wideMinus_int ph pl nh nl p0 p1 p2 p3 n0 n1 n2 n3)
      have HM2 := Lib.hid (wideMinus_int nh nl ph pl n0 n1 n2 n3 p0 p1 p2 p3)
      have hK := HK.out
      rw [← hD] at hK
      have HDD := Lib.hid hD
      by_cases g1 : 0 ≤ D ∧ D ≤ 4611686018427387904
      · have e1 : wminusV (ph * 18446744073709551616 + pl).toNat (nh * 18446744073709551616 + nl).toNat = .tuple #[.int .i64 D, .bool true] := wminusV_some (by omega) (by omega)
        have HV : Hid (dotV D = .tuple #[.int .i64 D, .bool true]) := Lib.hid (if_pos (by omega))
        rw [e1] at HM
        clear hK hD e1 hkl HM2
        go_wp2_with fail
        refine (HM.out _).mono ?_
        rintro e w1 ⟨rfl, he⟩
        have HE1 := Lib.hid (HE.out.trans he)
        clear he
        go_wp2_with fail
        go_ret2
        exact ⟨by rw [← HDD.out, HV.out]; rfl, HE1.out⟩
      · have e1 : wminusV (ph * 18446744073709551616 + pl).toNat (nh * 18446744073709551616 + nl).toNat = .tuple #[.int .i64 0, .bool false] := wminusV_none (by omega)
        rw [e1] at HM
        by_cases g2 : -4611686018427387904 ≤ D ∧ D ≤ 0
        · have e2 : wminusV (nh * 18446744073709551616 + nl).toNat (ph * 18446744073709551616 + pl).toNat = .tuple #[.int .i64 (-D), .bool true] := wminusV_some (by omega) (by omega)
          have HV : Hid (dotV D = .tuple #[.int .i64 D, .bool true]) := Lib.hid (if_pos (by omega))
          have g3 := g2.1
          have g4 := g2.2
          rw [e2] at HM2
          clear hK hD e1 e2 hkl
          go_wp2_with fail
          refine (HM.out _).mono ?_
          rintro e w1 ⟨rfl, he⟩
          have HE1 := Lib.hid (HE.out.trans he)
          have s1 : w1.cell? ⟨w.heap.size, 0, none⟩ = some (.int .u64 ph) := he.cell t1
          have s2 : w1.cell? ⟨w.heap.size, 1, none⟩ = some (.int .u64 pl) := he.cell t2
          have s3 : w1.cell? ⟨w.heap.size + 1, 0, none⟩ = some (.int .u64 nh) := he.cell t3
          have s4 : w1.cell? ⟨w.heap.size + 1, 1, none⟩ = some (.int .u64 nl) := he.cell t4
          clear he t1 t2 t3 t4
          go_wp2_with fail
          refine (HM2.out _).mono ?_
          rintro e w2 ⟨rfl, he⟩
          have HE2 := Lib.hid (HE1.out.trans he)
          clear he s1 s2 s3 s4
          go_wp2_with fail
          go_ret2
          refine ⟨?_, HE2.out⟩
          rw [← HDD.out, HV.out]
          simp
        · have e2 : wminusV (nh * 18446744073709551616 + nl).toNat (ph * 18446744073709551616 + pl).toNat = .tuple #[.int .i64 0, .bool false] := wminusV_none (by omega)
          have HV : Hid (dotV D = .tuple #[.int .i64 0, .bool false]) := Lib.hid (if_neg (by omega))
          rw [e2] at HM2
          clear hK hD e1 e2 hkl g1 g2
          go_wp2_with fail
          refine (HM.out _).mono ?_
          rintro e w1 ⟨rfl, he⟩
          have HE1 := Lib.hid (HE.out.trans he)
          have s1 : w1.cell? ⟨w.heap.size, 0, none⟩ = some (.int .u64 ph) := he.cell t1
          have s2 : w1.cell? ⟨w.heap.size, 1, none⟩ = some (.int .u64 pl) := he.cell t2
          have s3 : w1.cell? ⟨w.heap.size + 1, 0, none⟩ = some (.int .u64 nh) := he.cell t3
          have s4 : w1.cell? ⟨w.heap.size + 1, 1, none⟩ = some (.int .u64 nl) := he.cell t4
          clear he t1 t2 t3 t4
          go_wp2_with fail
          refine (HM2.out _).mono ?_
          rintro e w2 ⟨rfl, he⟩
          have HE2 := Lib.hid (HE1.out.trans he)
          clear he s1 s2 s3 s4
          go_wp2_with fail
          go_ret2
          refine ⟨?_, HE2.out⟩
          rw [← HDD.out, HV.out]
          rfl

end Go.Proofs.Ytennjcjjegbhgaa
