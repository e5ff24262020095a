/-
  Proved: the statement VectorComparesSaid: for every input the law quadformlaw09.VectorCompares returns true, and each argument reads afterwards as it read before. No condition.
-/
import Derived.Test.YtennjcjjegbhgaaWalkP
import Derived.Test.YtennjcjjegbhgaaOpen
namespace Go.Proofs.Ytennjcjjegbhgaa
open Go.ChangeShapes Go.WideShapes Go.ChangeAt Go.RowKit

theorem rdI_take {k : IntKind} {w : World} {A : Option Addr} {x : List Int} (h : RdI k w A x) (m : Nat) : RdI k w A (x.take m) := fun hne => by
  obtain ⟨b, off, rfl, hc⟩ := h (by rintro e; apply hne; simp at e; simp [e])
  refine ⟨b, off, rfl, fun i v hv => hc i v ?_⟩
  rw [List.getElem?_map, List.getElem?_take] at hv
  rw [List.getElem?_map]
  split at hv
  · exact hv
  · cases hv

set_option maxRecDepth 100000 in
set_option maxHeartbeats 2000000 in
theorem lawCompares_walk (A B : Option Addr) (c d : Nat) (x y : List Int) (s : Int) (w : World) (hx : RdI .i64 w A x) (hy : RdI .i64 w B y) (hc : x.length ≤ c) (hcx : x.length * 8 ≤ 140737488351232) (hdy : y.length * 8 ≤ 140737488351232) (s0 : 0 ≤ s) (s1 : s ≤ 255) :
    Calls Try.prog 3 #[.slice A x.length c, .slice B y.length d, .int .u8 s] w fun e w' => e = .returned (.bool true) ∧ Ext w w' := by
  have HX := Lib.hid hx
  have HY := Lib.hid hy
  clear hx hy
  obtain ⟨n, rfl⟩ := Int.eq_ofNat_of_zero_le s0
  obtain ⟨M, hM⟩ : ∃ M, M = (min (x.length : Int) ((n : Int) % 8)).toNat := ⟨_, rfl⟩
  have hM1 : M ≤ x.length := by omega
  have hM2 : M ≤ 7 := by omega
  have HM := Lib.hid hM
  have HTL : Hid ((x.take M).length = M) := Lib.hid (by rw [List.length_take]; omega)
  have HR1 : Hid (RdI .i64 w A (x.take M)) := Lib.hid (rdI_take HX.out M)
  have HMM : Hid ((x.take M).map (Value.int .i64) = (x.take M).map (Value.int .i64)) := Lib.hid rfl
  obtain ⟨Z, hZ⟩ : ∃ Z, Z = x.take M ++ y := ⟨_, rfl⟩
  have hZl : 0 + M + y.length = Z.length := by rw [hZ, List.length_append, HTL.out]; omega
  have HZ := Lib.hid hZ
  have HZL := Lib.hid hZl
  have hZb : Z.length ≤ 9223372036854775807 := by omega
  clear hZ hZl
  clear hM
  go_enter Try.func3, Try.ntmps3
  go_wp2_with (first
    | (at_builtin; refine wpList_append_rd _ rfl (.const (.slice none 0 0)) (.tmp 15) _ rfl w.heap.size 2 (.int .i64 0) 1 8 Try.underlying22 Try.inI64 rfl (by omega) (.slice none 0 0) 0 [] rfl (World.ownsRow_nil _ _ _ _) A M c ((x.take M).map (Value.int .i64)) (by rw [HM.out]; rfl) HR1.out (by rw [List.length_map, HTL.out]; omega) oneCell_ints (by simp only [maxLen]; omega) (by omega) (Nat.le_refl _) ?_; intro v1 w1 hown1 hg1 _; have HO1 := Lib.hid hown1; have HE1 := Lib.hid (grown_ext hg1 (World.ownsRow_nil w w.heap.size 2 1) (Ext.refl w) (Nat.le_refl _)); clear hown1 hg1)
    | (at_builtin; refine wpList_append_rd _ rfl (.tmp 16) (.tmp 17) _ rfl w.heap.size 2 (.int .i64 0) 1 8 Try.underlying22 Try.inI64 rfl (by omega) v1 (0 + M) _ rfl HO1.out B y.length d (y.map (Value.int .i64)) rfl (HY.out.ext HE1.out) (by simp) oneCell_ints (by simp only [maxLen]; omega) (by omega) HE1.out.size ?_; intro v2 w2 hown2 hg2 _; rw [HZL.out] at hown2; obtain ⟨A2, c2, rfl, hc2, _⟩ := ownsRow_len hown2; have HO2 := Lib.hid hown2; have HE2 := Lib.hid (grown_ext hg2 HO1.out HE1.out (Nat.le_refl _)); clear hown2 hg2)
    | fail)
  have hbx : x.length ≤ 9223372036854775807 := by omega
  have hby : y.length ≤ 9223372036854775807 := by omega
  have HRZ : Hid (RdI .i64 w2 A2 Z) := Lib.hid (by
    have := Rd.of_own HO2.out
    unfold RdI
    rw [HZ.out, List.map_append]
    simpa using this)
  have HXX : Hid (cmpL x x = 0) := Lib.hid (cmpL_self x)
  refine (vecCompare_any A B c d x y _ (HX.out.ext HE2.out) (HY.out.ext HE2.out) hbx hby).mono ?_
  rintro e w3 ⟨rfl, rfl⟩
  go_wp2_with fail
  refine (refCompare_any A B c d x y _ (HX.out.ext HE2.out) (HY.out.ext HE2.out) hbx hby).mono ?_
  rintro e w3 ⟨rfl, n1, rfl⟩
  have HE3 := Lib.hid (HE2.out.drewN n1)
  have HRZ3 := Lib.hid (HRZ.out.ext ((Ext.refl _).drewN n1))
  clear HE2 HRZ HO2
  generalize w2.drewN n1 = w3 at *
  go_wp2_with fail
  refine (vecCompare_any B A d c y x _ (HY.out.ext HE3.out) (HX.out.ext HE3.out) hby hbx).mono ?_
  rintro e w4 ⟨rfl, rfl⟩
  go_wp2_with fail
  refine (refCompare_any B A d c y x _ (HY.out.ext HE3.out) (HX.out.ext HE3.out) hby hbx).mono ?_
  rintro e w4 ⟨rfl, n2, rfl⟩
  have HE4 := Lib.hid (HE3.out.drewN n2)
  have HRZ4 := Lib.hid (HRZ3.out.ext ((Ext.refl _).drewN n2))
  clear HE3 HRZ3
  generalize w3.drewN n2 = w4 at *
  go_wp2_with fail
  refine (vecCompare_any A A2 c c2 x Z _ (HX.out.ext HE4.out) HRZ4.out hbx hZb).mono ?_
  rintro e w5 ⟨rfl, rfl⟩
  go_wp2_with fail
  refine (refCompare_any A A2 c c2 x Z _ (HX.out.ext HE4.out) HRZ4.out hbx hZb).mono ?_
  rintro e w5 ⟨rfl, n3, rfl⟩
  have HE5 := Lib.hid (HE4.out.drewN n3)
  clear HE4 HRZ4
  generalize w4.drewN n3 = w5 at *
  go_wp2_with fail
  have hxx := vecCompare_any A A c c x x w5 (HX.out.ext HE5.out) (HX.out.ext HE5.out) hbx hbx
  rw [HXX.out] at hxx
  refine hxx.mono ?_
  rintro e w6 ⟨rfl, rfl⟩
  clear hxx
  go_wp2_with fail
  refine (awake_any _).mono ?_
  rintro e w6 ⟨rfl, he⟩
  have HE6 := Lib.hid (HE5.out.trans he)
  clear he
  go_wp2_with fail
  go_ret
  exact ⟨rfl, HE6.out⟩

set_option maxRecDepth 100000 in
theorem lawCompares_lifted (os : Os) (started : os.Started) (H : Type) (enc : TypeId × Value → H) :
    ReturnsInHanded {} Try.checked os 3 .any (Rows.vectorComparesSpec.pre6 enc Try.prog Try.f3 Rows.vectorComparesRow.domain false) (Rows.vectorComparesSpec.post enc Try.prog Try.f3 false true false false) := by
  refine returnsInHanded_of_change_sized (C := Try.checked) Try.ownKnob_ started (by kernel_rfl) Try.func3
    (ChangeSpec.witness6 (enc := enc) (C := Try.checked) false ⟨#[], #[.slice none 0 0, .slice none 0 0, .int .u8 0], []⟩ 8 (by kernel_rfl) (by kernel_rfl) (by kernel_rfl) (by kernel_rfl)) ?_
  intro W base args ds gs before hval0 hW hcnd hsz0 _
  have hval : ∀ (j : Nat) t v, Try.f3.params[j]? = some t → args[j]? = some v → Value.okWide Try.prog W .any base t v := hval0
  have hsz : (DataW.weightsEach Try.prog (Try.f3.params.toList ++ Rows.vectorComparesSpec.plain.varTypes Try.prog) (ds ++ gs)).all (· ≤ reachBytes) = true := hsz0
  have hW' := hW
  obtain ⟨p, q, hA0, hV, rfl, hfz, hnd⟩ := hW
  have hA : DataW.TrodAll enc Try.prog W 0 (fun _ => true) true Try.f3.params.toList args.toList ds p := hA0
  rw [Try.params3] at hA hval hsz
  obtain ⟨v0, vs0, d0, ds0, p0, q0, hargs, rfl, rfl, h0, r0⟩ := trodAll_cons hA
  obtain ⟨v1, vs1, d1, ds1, p1, q1, rfl, rfl, rfl, h1, r1⟩ := trodAll_cons r0
  obtain ⟨v2, vs2, d2, ds2, p2, q2, rfl, rfl, rfl, h2, r2⟩ := trodAll_cons r1
  obtain ⟨rfl, rfl, rfl⟩ := trodAll_nil r2
  obtain rfl : args = #[v0, v1, v2] := by cases args; simp_all
  obtain ⟨rfl, rfl⟩ := trodVars_none hV
  obtain ⟨a0, len0, cap0, rfl⟩ := okWide_slice Try.underlying22 (hval 0 22 v0 rfl rfl)
  have k0 := h0
  have lt0 : ∀ x ∈ p0, x.block < W.heap.size := by obtain ⟨m, hm⟩ := k0; exact DataW.trod_lt m _ _ _ hm
  obtain ⟨z0, rfl, g01, g02, g03, g04, g05⟩ := open_rdI Try.underlying22 Try.underlying2 (by kernel_rfl) h0
  obtain ⟨a1, len1, cap1, rfl⟩ := okWide_slice Try.underlying22 (hval 1 22 v1 rfl rfl)
  have k1 := h1
  have lt1 : ∀ x ∈ p1, x.block < W.heap.size := by obtain ⟨m, hm⟩ := k1; exact DataW.trod_lt m _ _ _ hm
  obtain ⟨z1, rfl, g11, g12, g13, g14, g15⟩ := open_rdI Try.underlying22 Try.underlying2 (by kernel_rfl) h1
  obtain ⟨a2, rfl, rfl, rfl, w2⟩ := open_int Try.underlying5 (hval 2 5 v2 rfl rfl) h2
  have hb0 : z0.length * 8 ≤ 140737488351232 := by
    rcases g05 with ⟨_, h⟩ | ⟨sp, rfl, hs⟩
    · rw [h]; omega
    · have := sized_slice hsz (j := 0) (t := 22) (e := 2) rfl rfl Try.underlying22
      rw [show Try.prog.bytesOf 2 = 8 from by kernel_rfl] at this
      simp only [lits, List.length_map, reachBytes] at this
      omega
  have hb1 : z1.length * 8 ≤ 140737488351232 := by
    rcases g15 with ⟨_, h⟩ | ⟨sp, rfl, hs⟩
    · rw [h]; omega
    · have := sized_slice hsz (j := 1) (t := 22) (e := 2) rfl rfl Try.underlying22
      rw [show Try.prog.bytesOf 2 = 8 from by kernel_rfl] at this
      simp only [lits, List.length_map, reachBytes] at this
      omega
  have hu := wf_u8_bd w2
  clear hA0 hval0 hsz0
  refine (lawCompares_walk a0 a1 cap0 cap1 z0 z1 a2 W g03 g13 g01 hb0 hb1 hu.1 hu.2).mono fun e W' ⟨he, bel0⟩ => ?_
  have bel : Below W.heap.size W W' := bel0
  subst he
  exact ⟨_, rfl, _, _, _, [], _, [], hW', trodAll_mk1 (shut_bool Try.underlying4 _), (trodAll_cons_mk (Below.trod Try.laidOut_ (by kernel_rfl) (of_decide_eq_true (by kernel_rfl)) k0 bel lt0) (trodAll_cons_mk (Below.trod Try.laidOut_ (by kernel_rfl) (of_decide_eq_true (by kernel_rfl)) k1 bel lt1) (trodAll_cons_mk (shut_int Try.underlying5 w2) trodAll_mk0))), rfl, bel.frame _, fun h => by cases h⟩

theorem vectorCompares_holds : Rows.VectorComparesSaid :=
  OpenClaim.holds_of_wide 3 Try.f3 rfl rfl rfl rfl rfl rfl rfl ⟨rfl, rfl, rfl, rfl, rfl⟩ rfl rfl rfl rfl rfl (by kernel_rfl) Try.func3 (by kernel_rfl)
    (of_decide_eq_true (by kernel_rfl)) (by unfold Func.isWrapper; first | (rw [if_pos (by decide +kernel)]; kernel_rfl) | (rw [if_neg (by decide +kernel)]; exact ⟨rfl, rfl⟩))
    (fun os started H enc _ => lawCompares_lifted os started H enc)
#print axioms vectorCompares_holds

end Go.Proofs.Ytennjcjjegbhgaa
