/-
  The walks of vector.Content and quadformref09.Content.
-/
import Derived.Test.YtennjcjjegbhgaaApp
import Derived.Test.YtennjcjjegbhgaaWalkI
namespace Go.Proofs.Ytennjcjjegbhgaa
open Go.RowKit

/-- The greatest common divisor of the entries. -/
def contG (x : List Int) : Nat := x.foldl (fun d c => Nat.gcd d c.natAbs) 0
theorem contG_snoc (x : List Int) (a : Int) : contG (x ++ [a]) = Nat.gcd (contG x) a.natAbs := by simp [contG]
theorem takeSnoc {x : List Int} {k : Nat} {a : Int} (h : x[k]? = some a) : x.take (k + 1) = x.take k ++ [a] := by
  obtain ⟨h1, rfl⟩ := List.getElem?_eq_some_iff.1 h
  rw [List.take_succ_eq_append_getElem h1]
theorem wrap_neg_u64 {a : Int} (h1 : -9223372036854775808 ≤ a) (h2 : a < 0) : IntKind.u64.wrap (-IntKind.u64.wrap a) = ((a.natAbs : Nat) : Int) := by
  rw [IntKind.wrap_u64, IntKind.wrap_u64]; omega
theorem gcd_le_ {d a B : Nat} (hd : d ≤ B) (ha : a ≤ B) : Nat.gcd d a ≤ B := by
  rcases Nat.eq_zero_or_pos d with h | h
  · subst h; simpa using ha
  · exact Nat.le_trans (Nat.gcd_le_left a h) hd

set_option maxRecDepth 100000 in
set_option maxHeartbeats 1000000 in
theorem content_any (A : Option Addr) (c : Nat) (x : List Int) (w : World) (hx : RdI .i64 w A x) (hb : ∀ z ∈ x, -9223372036854775808 ≤ z ∧ z ≤ 9223372036854775807) (lx : x.length ≤ 9223372036854775807) :
    Calls Try.prog 12 #[.slice A x.length c] w fun e w' => e = .returned (.int .u64 (contG x)) ∧ Ext w w' := by
  have HX := Lib.hid hx
  have HB := Lib.hid hb
  clear hx hb
  go_enter Try.func12, Try.ntmps12
  go_wp2_with fail
  go_loopw [9, 3, 5, 6] (fun i d _ _ wr => ∃ (k dn : Nat), k ≤ x.length ∧ i = .int .i64 k ∧ d = .int .u64 dn ∧ dn ≤ 9223372036854775808 ∧ Hid (dn = contG (x.take k)) ∧ Hid (Ext w wr)) (fun i _ _ _ _ => x.length - (intOf i).toNat)
  case atStart => exact ⟨0, 0, Nat.zero_le _, rfl, rfl, by omega, Lib.hid (by simp [contG]), Lib.hid (Ext.refl _)⟩
  case round =>
    obtain ⟨k, dn, hk, rfl, rfl, hdn, HD, HE⟩ := hrel
    by_cases hlt : k < x.length
    · obtain ⟨a, ha⟩ := getElem?_of_lt hlt
      obtain ⟨b, off, rfl, hc⟩ := (HX.out.ext HE.out).at_ ha
      have hab := HB.out a (List.mem_of_getElem? ha)
      have ha1 := hab.1
      have ha2 := hab.2
      have HN : Hid (contG (x.take (k + 1)) = Nat.gcd dn a.natAbs) := Lib.hid (by rw [takeSnoc ha, contG_snoc, ← HD.out])
      clear ha hab
      obtain ⟨an, han⟩ : ∃ an : Nat, an = a.natAbs := ⟨_, rfl⟩
      have hanb : an ≤ 9223372036854775808 := by omega
      have HAN := Lib.hid han
      by_cases hneg : a < 0
      · have HW : Hid (IntKind.u64.wrap (-IntKind.u64.wrap a) = (an : Int)) := Lib.hid (by rw [wrap_neg_u64 ha1 hneg, han])
        clear han
        go_wp2_with fail
        obtain ⟨wo, rfl⟩ : ∃ wo : World, wo = wr := ⟨_, rfl⟩
        go_loopw [3, 6] (fun d r wx => ∃ (d' r' : Nat), d = .int .u64 d' ∧ r = .int .u64 r' ∧ d' ≤ 9223372036854775808 ∧ r' ≤ 9223372036854775808 ∧ Hid (Nat.gcd d' r' = Nat.gcd dn an) ∧ Hid (Ext w wx)) (fun _ r _ => (intOf r).toNat)
        case atStart => exact ⟨dn, an, rfl, by rw [HW.out], hdn, hanb, Lib.hid rfl, HE⟩
        case round =>
          clear HE hc
          obtain ⟨d', r', rfl, rfl, hd', hr', HG, HE⟩ := hrel
          by_cases h0 : r' = 0
          · have h0' : ((r' : Int) != 0) = false := by simp [h0]
            have H0 := Lib.hid h0
            clear h0
            go_wp2_with fail
            go_roundw
            case rel =>
              have hgd : d' = Nat.gcd dn an := by have := HG.out; rw [H0.out, Nat.gcd_zero_right] at this; exact this
              exact ⟨k + 1, d', by omega, by go_num, rfl, hd', Lib.hid (by rw [HN.out, hgd, HAN.out]), HE⟩
            case measure => simp [intOf]; omega
          · have h0' : ((r' : Int) != 0) = true := by simp [h0]
            have h1 : (1 : Int) ≤ (r' : Int) := by omega
            have hz : ((r' : Int) == 0) = false := by simp [h0]
            go_wp2_with fail
            go_quiet (fail)
            go_wp2_with fail
            go_roundw
            case rel =>
              refine ⟨r', d' % r', rfl, by first | rfl | (congr 1) | simp, hr', ?_, Lib.hid ?_, Lib.hid (HE.out.drewN _)⟩
              · have := Nat.mod_lt d' (show 0 < r' by omega); omega
              · rw [← HG.out, Nat.gcd_comm r', ← Nat.gcd_rec, Nat.gcd_comm]
            case measure => 
              have := Nat.mod_lt d' (show 0 < r' by omega)
              simp [intOf]; omega
      · have HW : Hid ((an : Int) = a) := Lib.hid (by omega)
        clear han
        go_wp2_with fail
        obtain ⟨wo, rfl⟩ : ∃ wo : World, wo = wr := ⟨_, rfl⟩
        go_loopw [3, 6] (fun d r wx => ∃ (d' r' : Nat), d = .int .u64 d' ∧ r = .int .u64 r' ∧ d' ≤ 9223372036854775808 ∧ r' ≤ 9223372036854775808 ∧ Hid (Nat.gcd d' r' = Nat.gcd dn an) ∧ Hid (Ext w wx)) (fun _ r _ => (intOf r).toNat)
        case atStart => exact ⟨dn, an, rfl, by rw [HW.out], hdn, hanb, Lib.hid rfl, HE⟩
        case round =>
          clear HE hc
          obtain ⟨d', r', rfl, rfl, hd', hr', HG, HE⟩ := hrel
          by_cases h0 : r' = 0
          · have h0' : ((r' : Int) != 0) = false := by simp [h0]
            have H0 := Lib.hid h0
            clear h0
            go_wp2_with fail
            go_roundw
            case rel =>
              have hgd : d' = Nat.gcd dn an := by have := HG.out; rw [H0.out, Nat.gcd_zero_right] at this; exact this
              exact ⟨k + 1, d', by omega, by go_num, rfl, hd', Lib.hid (by rw [HN.out, hgd, HAN.out]), HE⟩
            case measure => simp [intOf]; omega
          · have h0' : ((r' : Int) != 0) = true := by simp [h0]
            have h1 : (1 : Int) ≤ (r' : Int) := by omega
            have hz : ((r' : Int) == 0) = false := by simp [h0]
            go_wp2_with fail
            go_quiet (fail)
            go_wp2_with fail
            go_roundw
            case rel =>
              refine ⟨r', d' % r', rfl, by first | rfl | (congr 1) | simp, hr', ?_, Lib.hid ?_, Lib.hid (HE.out.drewN _)⟩
              · have := Nat.mod_lt d' (show 0 < r' by omega); omega
              · rw [← HG.out, Nat.gcd_comm r', ← Nat.gcd_rec, Nat.gcd_comm]
            case measure => 
              have := Nat.mod_lt d' (show 0 < r' by omega)
              simp [intOf]; omega
    · go_wp2_with fail
      go_ret
      exact ⟨ret_int (by rw [HD.out, List.take_of_length_le (by omega)]), HE.out⟩

set_option maxRecDepth 100000 in
set_option maxHeartbeats 1000000 in
theorem refContent_any (A : Option Addr) (c : Nat) (x : List Int) (w : World) (hx : RdI .i64 w A x) (hb : ∀ z ∈ x, -9223372036854775808 ≤ z ∧ z ≤ 9223372036854775807) (lx : x.length ≤ 9223372036854775807) :
    Calls Try.prog 13 #[.slice A x.length c] w fun e w' => e = .returned (.int .u64 (contG x)) ∧ Ext w w' := by
  have HX := Lib.hid hx
  have HB := Lib.hid hb
  clear hx hb
  go_enter Try.func13, Try.ntmps13
  go_wp2_with fail
  go_loopw [9, 3, 5, 6] (fun i d _ _ wr => ∃ (k dn : Nat), k ≤ x.length ∧ i = .int .i64 k ∧ d = .int .u64 dn ∧ dn ≤ 9223372036854775808 ∧ Hid (dn = contG (x.take k)) ∧ Hid (Ext w wr)) (fun i _ _ _ _ => x.length - (intOf i).toNat)
  case atStart => exact ⟨0, 0, Nat.zero_le _, rfl, rfl, by omega, Lib.hid (by simp [contG]), Lib.hid (Ext.refl _)⟩
  case round =>
    obtain ⟨k, dn, hk, rfl, rfl, hdn, HD, HE⟩ := hrel
    by_cases hlt : k < x.length
    · obtain ⟨a, ha⟩ := getElem?_of_lt hlt
      obtain ⟨b, off, rfl, hc⟩ := (HX.out.ext HE.out).at_ ha
      have hab := HB.out a (List.mem_of_getElem? ha)
      have ha1 := hab.1
      have ha2 := hab.2
      have HN : Hid (contG (x.take (k + 1)) = Nat.gcd dn a.natAbs) := Lib.hid (by rw [takeSnoc ha, contG_snoc, ← HD.out])
      clear ha hab
      obtain ⟨an, han⟩ : ∃ an : Nat, an = a.natAbs := ⟨_, rfl⟩
      have hanb : an ≤ 9223372036854775808 := by omega
      have HAN := Lib.hid han
      by_cases hneg : a < 0
      · have HW : Hid (IntKind.u64.wrap (-IntKind.u64.wrap a) = (an : Int)) := Lib.hid (by rw [wrap_neg_u64 ha1 hneg, han])
        clear han
        go_wp2_with fail
        obtain ⟨wo, rfl⟩ : ∃ wo : World, wo = wr := ⟨_, rfl⟩
        go_loopw [3, 6] (fun d r wx => ∃ (d' r' : Nat), d = .int .u64 d' ∧ r = .int .u64 r' ∧ d' ≤ 9223372036854775808 ∧ r' ≤ 9223372036854775808 ∧ Hid (Nat.gcd d' r' = Nat.gcd dn an) ∧ Hid (Ext w wx)) (fun _ r _ => (intOf r).toNat)
        case atStart => exact ⟨dn, an, rfl, by rw [HW.out], hdn, hanb, Lib.hid rfl, HE⟩
        case round =>
          clear HE hc
          obtain ⟨d', r', rfl, rfl, hd', hr', HG, HE⟩ := hrel
          by_cases h0 : r' = 0
          · have h0' : ((r' : Int) != 0) = false := by simp [h0]
            have H0 := Lib.hid h0
            clear h0
            go_wp2_with fail
            go_roundw
            case rel =>
              have hgd : d' = Nat.gcd dn an := by have := HG.out; rw [H0.out, Nat.gcd_zero_right] at this; exact this
              exact ⟨k + 1, d', by omega, by go_num, rfl, hd', Lib.hid (by rw [HN.out, hgd, HAN.out]), HE⟩
            case measure => simp [intOf]; omega
          · have h0' : ((r' : Int) != 0) = true := by simp [h0]
            have h1 : (1 : Int) ≤ (r' : Int) := by omega
            have hz : ((r' : Int) == 0) = false := by simp [h0]
            go_wp2_with fail
            go_quiet (fail)
            go_wp2_with fail
            go_roundw
            case rel =>
              refine ⟨r', d' % r', rfl, by first | rfl | (congr 1) | simp, hr', ?_, Lib.hid ?_, Lib.hid (HE.out.drewN _)⟩
              · have := Nat.mod_lt d' (show 0 < r' by omega); omega
              · rw [← HG.out, Nat.gcd_comm r', ← Nat.gcd_rec, Nat.gcd_comm]
            case measure => 
              have := Nat.mod_lt d' (show 0 < r' by omega)
              simp [intOf]; omega
      · have HW : Hid ((an : Int) = a) := Lib.hid (by omega)
        clear han
        go_wp2_with fail
        obtain ⟨wo, rfl⟩ : ∃ wo : World, wo = wr := ⟨_, rfl⟩
        go_loopw [3, 6] (fun d r wx => ∃ (d' r' : Nat), d = .int .u64 d' ∧ r = .int .u64 r' ∧ d' ≤ 9223372036854775808 ∧ r' ≤ 9223372036854775808 ∧ Hid (Nat.gcd d' r' = Nat.gcd dn an) ∧ Hid (Ext w wx)) (fun _ r _ => (intOf r).toNat)
        case atStart => exact ⟨dn, an, rfl, by rw [HW.out], hdn, hanb, Lib.hid rfl, HE⟩
        case round =>
          clear HE hc
          obtain ⟨d', r', rfl, rfl, hd', hr', HG, HE⟩ := hrel
          by_cases h0 : r' = 0
          · have h0' : ((r' : Int) != 0) = false := by simp [h0]
            have H0 := Lib.hid h0
            clear h0
            go_wp2_with fail
            go_roundw
            case rel =>
              have hgd : d' = Nat.gcd dn an := by have := HG.out; rw [H0.out, Nat.gcd_zero_right] at this; exact this
              exact ⟨k + 1, d', by omega, by go_num, rfl, hd', Lib.hid (by rw [HN.out, hgd, HAN.out]), HE⟩
            case measure => simp [intOf]; omega
          · have h0' : ((r' : Int) != 0) = true := by simp [h0]
            have h1 : (1 : Int) ≤ (r' : Int) := by omega
            have hz : ((r' : Int) == 0) = false := by simp [h0]
            go_wp2_with fail
            go_quiet (fail)
            go_wp2_with fail
            go_roundw
            case rel =>
              refine ⟨r', d' % r', rfl, by first | rfl | (congr 1) | simp, hr', ?_, Lib.hid ?_, Lib.hid (HE.out.drewN _)⟩
              · have := Nat.mod_lt d' (show 0 < r' by omega); omega
              · rw [← HG.out, Nat.gcd_comm r', ← Nat.gcd_rec, Nat.gcd_comm]
            case measure => 
              have := Nat.mod_lt d' (show 0 < r' by omega)
              simp [intOf]; omega
    · go_wp2_with fail
      go_ret
      exact ⟨ret_int (by rw [HD.out, List.take_of_length_le (by omega)]), HE.out⟩

end Go.Proofs.Ytennjcjjegbhgaa
