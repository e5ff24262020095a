/-
  Proved: the statement VectorSignsSaid: for every input the law quadformlaw09.VectorSigns returns true, and each argument reads afterwards as it read before. No condition.
-/
import Derived.Test.YtennjcjjegbhgaaWalkP
import Derived.Test.YtennjcjjegbhgaaWalkR
import Derived.Test.YtennjcjjegbhgaaOpen
namespace Go.Proofs.Ytennjcjjegbhgaa
open Go.ChangeShapes Go.WideShapes Go.ChangeAt Go.RowKit

def cnL (x : List Int) : List Int := (canonS x).getD []
def cnB (x : List Int) : Bool := (canonS x).isSome
theorem cnL_len (x : List Int) : (cnL x).length ≤ x.length := by
  unfold cnL canonS
  split
  · split
    · simp
    · split <;> simp
  · simp
theorem canonU (A : Option Addr) (c : Nat) (x : List Int) (w0 w : World) (h0 : Ext w0 w) (hx : RdI .i64 w A x) (hl : x.length * 8 ≤ 140737488355328) :
    Calls Try.prog 10 #[.slice A x.length c] w fun e w' => ∃ B d, e = .returned (.tuple #[.slice B (cnL x).length d, .bool (cnB x)]) ∧ RdI .i64 w' B (cnL x) ∧ Ext w w' ∧ Ext w0 w' := by
  refine (canonicalSign_any A c x w hx hl).mono fun e w' ⟨h, he⟩ => ?_
  unfold cnL cnB
  unfold canonV at h
  cases hc : canonS x with
  | none => rw [hc] at h; exact ⟨none, 0, h, RdI.nil _ _ _, he, h0.trans he⟩
  | some z => rw [hc] at h; obtain ⟨B, d, h1, _, h2, _⟩ := h; exact ⟨B, d, h1, h2, he, h0.trans he⟩
theorem refCanonU (A : Option Addr) (c : Nat) (x : List Int) (w0 w : World) (h0 : Ext w0 w) (hx : RdI .i64 w A x) (hl : x.length * 8 ≤ 140737488355328) :
    Calls Try.prog 11 #[.slice A x.length c] w fun e w' => ∃ B d, e = .returned (.tuple #[.slice B (cnL x).length d, .bool (cnB x)]) ∧ RdI .i64 w' B (cnL x) ∧ Ext w w' ∧ Ext w0 w' := by
  refine (refCanon_any A c x w hx hl).mono fun e w' ⟨h, he⟩ => ?_
  unfold cnL cnB
  unfold refV at h
  cases hc : canonS x with
  | none => rw [hc] at h; exact ⟨none, 0, h, RdI.nil _ _ _, he, h0.trans he⟩
  | some z => rw [hc] at h; obtain ⟨B, d, h1, _, h2⟩ := h; exact ⟨B, d, h1, h2, he, h0.trans he⟩
theorem compareSame (A B : Option Addr) (c d : Nat) (x : List Int) (w0 w : World) (h0 : Ext w0 w) (hx : RdI .i64 w A x) (hy : RdI .i64 w B x) (lx : x.length ≤ 9223372036854775807) :
    Calls Try.prog 7 #[.slice A x.length c, .slice B x.length d] w fun e w' => e = .returned (.int .i64 0) ∧ Ext w w' ∧ Ext w0 w' :=
  (refCompare_any A B c d x x w hx hy lx lx).mono fun e w' ⟨h, n, hw⟩ => ⟨by rw [h, cmpL_self], by rw [hw]; exact (Ext.refl _).drewN n, by rw [hw]; exact h0.drewN n⟩

set_option maxRecDepth 100000 in
set_option maxHeartbeats 2000000 in
theorem lawSigns_walk (A B : Option Addr) (c d : Nat) (x l : List Int) (s : Int) (w : World) (hx : RdI .i64 w A x) (hl : RdI .i8 w B l) (hb : ∀ z ∈ l, -128 ≤ z ∧ z ≤ 127) (ll : l.length ≤ 9223372036854775807) (hcx : x.length * 8 ≤ 140737488351232) (s0 : 0 ≤ s) (s1 : s ≤ 255) :
    Calls Try.prog 4 #[.slice A x.length c, .slice B l.length d, .int .u8 s] w fun e w' => e = .returned (.bool true) ∧ Ext w w' := by
  have HX := Lib.hid hx
  have HL := Lib.hid hl
  have HB := Lib.hid hb
  clear hx hl hb
  obtain ⟨n, rfl⟩ := Int.eq_ofNat_of_zero_le s0
  obtain ⟨m, hm⟩ : ∃ m : Nat, (m : Int) = (n : Int) % 8 + 0 * 0 ∨ m = n % 10 := ⟨n % 10, .inr rfl⟩
  clear hm
  obtain ⟨m, hm⟩ : ∃ m : Nat, m = n % 10 := ⟨_, rfl⟩
  have hm9 : m ≤ 9 := by omega
  have hcon := vector_any B d l m w HL.out HB.out ll (by omega)
  rw [show ((m : Nat) : Int) = (n : Int) % 10 from by omega] at hcon
  have HC := Lib.hid hcon
  have hyl := cnL_len (vecM l m)
  have hxl := cnL_len x
  rw [vecM_length] at hyl
  have HVL := Lib.hid (vecM_length l m)
  clear hcon hm
  go_enter Try.func4, Try.ntmps4
  go_wp2_with fail
  refine HC.out.mono ?_
  rintro e w1 ⟨rfl, hrow, he⟩
  have HV := Lib.hid (vec_rd hrow)
  have HE := Lib.hid he
  clear hrow he HC
  go_wp2_with fail
  refine (canonU A c x w w1 HE.out (HX.out.ext HE.out) (by omega)).mono ?_
  rintro e w2 ⟨A1, c1, rfl, h1, h2, h3⟩
  have HA1 := Lib.hid h1
  have HV2 := Lib.hid (HV.out.ext h2)
  have HE2 := Lib.hid h3
  clear h1 h2 h3 HV HE
  go_wp2_with fail
  refine (refCanonU A c x w w2 HE2.out (HX.out.ext HE2.out) (by omega)).mono ?_
  rintro e w3 ⟨A2, c2, rfl, h1, h2, h3⟩
  have HA2 := Lib.hid h1
  have HA1' := Lib.hid (HA1.out.ext h2)
  have HV3 := Lib.hid (HV2.out.ext h2)
  have HE3 := Lib.hid h3
  clear h1 h2 h3 HV2 HE2 HA1
  go_wp2_with fail
  have hcon := canonU (some ⟨w.heap.size + 1, 0, none⟩) m (vecM l m) w w3 HE3.out HV3.out (by rw [vecM_length]; omega)
  rw [HVL.out] at hcon
  refine hcon.mono ?_
  clear hcon
  rintro e w4 ⟨A3, c3, rfl, h1, h2, h3⟩
  have HA3 := Lib.hid h1
  have HA1 := Lib.hid (HA1'.out.ext h2)
  have HA2' := Lib.hid (HA2.out.ext h2)
  have HV4 := Lib.hid (HV3.out.ext h2)
  have HE4 := Lib.hid h3
  clear h1 h2 h3 HV3 HE3 HA1' HA2
  go_wp2_with fail
  have hcon := refCanonU (some ⟨w.heap.size + 1, 0, none⟩) m (vecM l m) w w4 HE4.out HV4.out (by rw [vecM_length]; omega)
  rw [HVL.out] at hcon
  refine hcon.mono ?_
  clear hcon
  rintro e w5 ⟨A4, c4, rfl, h1, h2, h3⟩
  have HA4 := Lib.hid h1
  have HA1' := Lib.hid (HA1.out.ext h2)
  have HA2 := Lib.hid (HA2'.out.ext h2)
  have HA3' := Lib.hid (HA3.out.ext h2)
  have HE5 := Lib.hid h3
  clear h1 h2 h3 HV4 HE4 HA1 HA2' HA3
  go_wp2_with fail
  refine (compareSame A1 A2 c1 c2 (cnL x) w w5 HE5.out HA1'.out HA2.out (by omega)).mono ?_
  rintro e w6 ⟨rfl, h2, h3⟩
  have HA4' := Lib.hid (HA4.out.ext h2)
  have HA3 := Lib.hid (HA3'.out.ext h2)
  have HE6 := Lib.hid h3
  clear h2 h3 HE5 HA1' HA2 HA3' HA4
  go_wp2_with fail
  refine (compareSame A3 A4 c3 c4 (cnL (vecM l m)) w w6 HE6.out HA3.out HA4'.out (by omega)).mono ?_
  rintro e w7 ⟨rfl, h2, h3⟩
  have HE7 := Lib.hid h3
  clear h2 h3 HE6 HA3 HA4'
  go_wp2_with fail
  refine (awake_any _).mono ?_
  rintro e w8 ⟨rfl, he⟩
  have HE8 := Lib.hid (HE7.out.trans he)
  clear he
  go_wp2_with fail
  go_ret
  exact ⟨rfl, HE8.out⟩

set_option maxRecDepth 100000 in
theorem vectorSigns_lifted (os : Os) (started : os.Started) (H : Type) (enc : TypeId × Value → H) :
    ReturnsInHanded {} Try.checked os 4 .any (Rows.vectorSignsSpec.pre6 enc Try.prog Try.f4 Rows.vectorSignsRow.domain false) (Rows.vectorSignsSpec.post enc Try.prog Try.f4 false true false false) := by
  refine returnsInHanded_of_change_sized (C := Try.checked) Try.ownKnob_ started (by kernel_rfl) Try.func4
    (ChangeSpec.witness6 (enc := enc) (C := Try.checked) false ⟨#[], #[.slice none 0 0, .slice none 0 0, .int .u8 0], []⟩ 8 (by kernel_rfl) (by kernel_rfl) (by kernel_rfl) (by kernel_rfl)) ?_
  intro W base args ds gs before hval0 hW hcnd hsz0 _
  have hval : ∀ (j : Nat) t v, Try.f4.params[j]? = some t → args[j]? = some v → Value.okWide Try.prog W .any base t v := hval0
  have hsz : (DataW.weightsEach Try.prog (Try.f4.params.toList ++ Rows.vectorSignsSpec.plain.varTypes Try.prog) (ds ++ gs)).all (· ≤ reachBytes) = true := hsz0
  have hW' := hW
  obtain ⟨p, q, hA0, hV, rfl, hfz, hnd⟩ := hW
  have hA : DataW.TrodAll enc Try.prog W 0 (fun _ => true) true Try.f4.params.toList args.toList ds p := hA0
  rw [Try.params4] at hA hval hsz
  obtain ⟨v0, vs0, d0, ds0, p0, q0, hargs, rfl, rfl, h0, r0⟩ := trodAll_cons hA
  obtain ⟨v1, vs1, d1, ds1, p1, q1, rfl, rfl, rfl, h1, r1⟩ := trodAll_cons r0
  obtain ⟨v2, vs2, d2, ds2, p2, q2, rfl, rfl, rfl, h2, r2⟩ := trodAll_cons r1
  obtain ⟨rfl, rfl, rfl⟩ := trodAll_nil r2
  obtain rfl : args = #[v0, v1, v2] := by cases args; simp_all
  obtain ⟨rfl, rfl⟩ := trodVars_none hV
  obtain ⟨a0, len0, cap0, rfl⟩ := okWide_slice Try.underlying22 (hval 0 22 v0 rfl rfl)
  have k0 := h0
  have lt0 : ∀ x ∈ p0, x.block < W.heap.size := by obtain ⟨m, hm⟩ := k0; exact DataW.trod_lt m _ _ _ hm
  obtain ⟨z0, rfl, g01, g02, g03, g04, g05⟩ := open_rdI Try.underlying22 Try.underlying2 (by kernel_rfl) h0
  obtain ⟨a1, len1, cap1, rfl⟩ := okWide_slice Try.underlying26 (hval 1 26 v1 rfl rfl)
  have k1 := h1
  have lt1 : ∀ x ∈ p1, x.block < W.heap.size := by obtain ⟨m, hm⟩ := k1; exact DataW.trod_lt m _ _ _ hm
  obtain ⟨z1, rfl, g11, g12, g13, g14, g15⟩ := open_rdI Try.underlying26 Try.underlying61 (by kernel_rfl) h1
  obtain ⟨a2, rfl, rfl, rfl, w2⟩ := open_int Try.underlying5 (hval 2 5 v2 rfl rfl) h2
  have hb0 : z0.length * 8 ≤ 140737488351232 := by
    rcases g05 with ⟨_, h⟩ | ⟨sp, rfl, hs⟩
    · rw [h]; omega
    · have := sized_slice hsz (j := 0) (t := 22) (e := 2) rfl rfl Try.underlying22
      rw [show Try.prog.bytesOf 2 = 8 from by kernel_rfl] at this
      simp only [lits, List.length_map, reachBytes] at this
      omega
  have hb1 : z1.length * 1 ≤ 140737488351232 := by
    rcases g15 with ⟨_, h⟩ | ⟨sp, rfl, hs⟩
    · rw [h]; omega
    · have := sized_slice hsz (j := 1) (t := 26) (e := 61) rfl rfl Try.underlying26
      rw [show Try.prog.bytesOf 61 = 1 from by kernel_rfl] at this
      simp only [lits, List.length_map, reachBytes] at this
      omega
  clear hA0 hval0 hsz0
  refine (lawSigns_walk a0 a1 cap0 cap1 z0 z1 a2 W g03 g13 (fun z hz => wf_i8_bd (g14 z hz)) (by omega) hb0 (wf_u8_bd w2).1 (wf_u8_bd w2).2).mono fun e W' ⟨he, bel0⟩ => ?_
  have bel : Below W.heap.size W W' := bel0
  subst he
  exact ⟨_, rfl, _, _, _, [], _, [], hW', trodAll_mk1 (shut_bool Try.underlying4 _), (trodAll_cons_mk (Below.trod Try.laidOut_ (by kernel_rfl) (of_decide_eq_true (by kernel_rfl)) k0 bel lt0) (trodAll_cons_mk (Below.trod Try.laidOut_ (by kernel_rfl) (of_decide_eq_true (by kernel_rfl)) k1 bel lt1) (trodAll_cons_mk (shut_int Try.underlying5 w2) trodAll_mk0))), rfl, bel.frame _, fun h => by cases h⟩

theorem vectorSigns_holds : Rows.VectorSignsSaid :=
  OpenClaim.holds_of_wide 4 Try.f4 rfl rfl rfl rfl rfl rfl rfl ⟨rfl, rfl, rfl, rfl, rfl⟩ rfl rfl rfl rfl rfl (by kernel_rfl) Try.func4 (by kernel_rfl)
    (of_decide_eq_true (by kernel_rfl)) (by unfold Func.isWrapper; first | (rw [if_pos (by decide +kernel)]; kernel_rfl) | (rw [if_neg (by decide +kernel)]; exact ⟨rfl, rfl⟩))
    (fun os started H enc _ => vectorSigns_lifted os started H enc)
#print axioms vectorSigns_holds

end Go.Proofs.Ytennjcjjegbhgaa
