/-
  Proved: the statement VectorContentsSaid: for every input the law quadformlaw09.VectorContents returns true, and each argument reads afterwards as it read before. No condition.
-/
import Derived.Test.YtennjcjjegbhgaaWalkP
import Derived.Test.YtennjcjjegbhgaaWalkR
import Derived.Test.YtennjcjjegbhgaaWalkS
import Derived.Test.YtennjcjjegbhgaaOpen
namespace Go.Proofs.Ytennjcjjegbhgaa
open Go.ChangeShapes Go.WideShapes Go.ChangeAt Go.RowKit

theorem wrap64_bd (z : Int) : -9223372036854775808 ≤ wrap64 z ∧ wrap64 z ≤ 9223372036854775807 := by
  have := wf_i64_bd (wrap64_wf z)
  exact this
def mulL (l : List Int) (c : Int) : List Int := (List.range 5).map fun i => wrap64 (l.getD i 0 * c)
theorem mulL_length (l : List Int) (c : Int) : (mulL l c).length = 5 := by simp [mulL]
theorem mulL_bd (l : List Int) (c : Int) : ∀ z ∈ mulL l c, -9223372036854775808 ≤ z ∧ z ≤ 9223372036854775807 := by
  intro z hz
  simp only [mulL, List.mem_map] at hz
  obtain ⟨i, _, rfl⟩ := hz
  exact wrap64_bd _
def mulF (l : List Int) (c : Int) (k : Nat) : Nat → Value := fun j => if j < k then .int .i64 (wrap64 (l.getD j 0 * c)) else .int .i64 (l.getD j 0)

set_option maxRecDepth 100000 in
set_option maxHeartbeats 2000000 in
theorem lawContents_walk (A B : Option Addr) (c d : Nat) (x l : List Int) (s : Int) (w : World) (hx : RdI .i64 w A x) (hl : RdI .i8 w B l) (hxb : ∀ z ∈ x, -9223372036854775808 ≤ z ∧ z ≤ 9223372036854775807) (hb : ∀ z ∈ l, -128 ≤ z ∧ z ≤ 127) (ll : l.length ≤ 9223372036854775807) (lx : x.length ≤ 9223372036854775807) (s0 : -32768 ≤ s) (s1 : s ≤ 32767) :
    Calls Try.prog 5 #[.slice A x.length c, .slice B l.length d, .int .i16 s] w fun e w' => e = .returned (.bool true) ∧ Ext w w' := by
  have HX := Lib.hid hx
  have HL := Lib.hid hl
  have HB := Lib.hid hb
  have HXB := Lib.hid hxb
  clear hx hl hb hxb
  have HC := Lib.hid (vector_any B d l 5 w HL.out HB.out ll (by omega))
  go_enter Try.func5, Try.ntmps5
  go_wp2_with fail
  refine HC.out.mono ?_
  rintro e w1 ⟨rfl, hrow, he⟩
  have HR := Lib.hid (hrow.congr (g := mulF l s 0) (fun j hj => by simp [mulF, vecF, hj]))
  have HE := Lib.hid he
  clear hrow he HC
  go_wp2_with fail
  go_loopw [13, 8] (fun i _ wr => ∃ k : Nat, k ≤ 5 ∧ i = .int .i64 k ∧ Hid (wr.rowIs (w.heap.size + 1) 2 5 (mulF l s k)) ∧ Hid (Ext w wr)) (fun i _ _ => 5 - (intOf i).toNat)
  case atStart => exact ⟨0, by omega, rfl, HR, HE⟩
  case round =>
    clear HR HE
    obtain ⟨k, hk, rfl, HR, HE⟩ := hrel
    by_cases hlt : k < 5
    · have t1 : wr.cell? ⟨w.heap.size + 1, k, none⟩ = some (.int .i64 (l.getD k 0)) := by rw [HR.out.cell hlt]; simp [mulF]
      have t2 : wr.frozen? ⟨w.heap.size + 1, k, none⟩ = false := HR.out.frozen k
      obtain ⟨z, hz⟩ : ∃ z, z = l.getD k 0 := ⟨_, rfl⟩
      have HZ := Lib.hid hz
      rw [← hz] at t1
      clear hz
      go_wp2_with fail
      go_roundw
      case rel =>
        refine ⟨k + 1, by omega, by go_num, Lib.hid ((HR.out.set k _).congr (fun j _ => ?_)), Lib.hid (HE.out.setCell (by show w.heap.size ≤ w.heap.size + 1; omega) _)⟩
        unfold mulF
        by_cases e : j = k
        · subst e; rw [if_pos rfl, if_pos (by omega), ← HZ.out]
        · rw [if_neg e]
          by_cases h : j < k
          · rw [if_pos h, if_pos (by omega)]
          · rw [if_neg h, if_neg (by omega)]
      case measure => simp [intOf]; omega
    · have HY : Hid (RdI .i64 wr (some ⟨w.heap.size + 1, 0, none⟩) (mulL l s)) := Lib.hid (RdI.of_row HR.out (by rw [mulL_length]; exact Nat.le_refl _) (fun i z hz => by
        have hi := (List.getElem?_eq_some_iff.1 hz).1
        rw [mulL_length] at hi
        unfold mulF
        rw [if_pos (by omega)]
        simp [mulL, hi] at hz
        rw [List.getD_eq_getElem?_getD, hz]))
      clear HR
      go_wp2_with fail
      refine (content_any A c x wr (HX.out.ext HE.out) HXB.out lx).mono ?_
      rintro e w2 ⟨rfl, he⟩
      have HE2 := Lib.hid (HE.out.trans he)
      have HY2 := Lib.hid (HY.out.ext he)
      clear he HE HY
      go_wp2_with fail
      refine (refContent_any A c x w2 (HX.out.ext HE2.out) HXB.out lx).mono ?_
      rintro e w3 ⟨rfl, he⟩
      have HE3 := Lib.hid (HE2.out.trans he)
      have HY3 := Lib.hid (HY2.out.ext he)
      clear he HE2 HY2
      go_wp2_with fail
      have hcon := content_any (some ⟨w.heap.size + 1, 0, none⟩) 5 (mulL l s) w3 HY3.out (mulL_bd l s) (by rw [mulL_length]; omega)
      rw [mulL_length] at hcon
      refine hcon.mono ?_
      clear hcon
      rintro e w4 ⟨rfl, he⟩
      have HE4 := Lib.hid (HE3.out.trans he)
      have HY4 := Lib.hid (HY3.out.ext he)
      clear he HE3 HY3
      go_wp2_with fail
      have hcon := refContent_any (some ⟨w.heap.size + 1, 0, none⟩) 5 (mulL l s) w4 HY4.out (mulL_bd l s) (by rw [mulL_length]; omega)
      rw [mulL_length] at hcon
      refine hcon.mono ?_
      clear hcon
      rintro e w5 ⟨rfl, he⟩
      have HE5 := Lib.hid (HE4.out.trans he)
      clear he HE4 HY4
      go_wp2_with fail
      have hcon := content_any (some ⟨w5.heap.size, 0, none⟩) 2 [-9223372036854775808, 0] (w5.alloc (.cells #[.int .i64 (-9223372036854775808), .int .i64 0] 2)) (rdI_two (by go_simp) (by go_simp)) (by simp) (by simp)
      rw [show contG [-9223372036854775808, 0] = 9223372036854775808 from by decide +kernel] at hcon
      refine hcon.mono ?_
      clear hcon
      rintro e w6 ⟨rfl, he⟩
      have HE6 := Lib.hid ((HE5.out.alloc _).trans he)
      clear he HE5
      go_wp2_with fail
      refine (awake_any _).mono ?_
      rintro e w8 ⟨rfl, he⟩
      have HE8 := Lib.hid (HE6.out.trans he)
      clear he
      go_wp2_with fail
      go_ret
      exact ⟨rfl, HE8.out⟩

set_option maxRecDepth 100000 in
theorem vectorContents_lifted (os : Os) (started : os.Started) (H : Type) (enc : TypeId × Value → H) :
    ReturnsInHanded {} Try.checked os 5 .any (Rows.vectorContentsSpec.pre6 enc Try.prog Try.f5 Rows.vectorContentsRow.domain false) (Rows.vectorContentsSpec.post enc Try.prog Try.f5 false true false false) := by
  refine returnsInHanded_of_change_sized (C := Try.checked) Try.ownKnob_ started (by kernel_rfl) Try.func5
    (ChangeSpec.witness6 (enc := enc) (C := Try.checked) false ⟨#[], #[.slice none 0 0, .slice none 0 0, .int .i16 0], []⟩ 8 (by kernel_rfl) (by kernel_rfl) (by kernel_rfl) (by kernel_rfl)) ?_
  intro W base args ds gs before hval0 hW hcnd hsz0 _
  have hval : ∀ (j : Nat) t v, Try.f5.params[j]? = some t → args[j]? = some v → Value.okWide Try.prog W .any base t v := hval0
  have hsz : (DataW.weightsEach Try.prog (Try.f5.params.toList ++ Rows.vectorContentsSpec.plain.varTypes Try.prog) (ds ++ gs)).all (· ≤ reachBytes) = true := hsz0
  have hW' := hW
  obtain ⟨p, q, hA0, hV, rfl, hfz, hnd⟩ := hW
  have hA : DataW.TrodAll enc Try.prog W 0 (fun _ => true) true Try.f5.params.toList args.toList ds p := hA0
  rw [Try.params5] at hA hval hsz
  obtain ⟨v0, vs0, d0, ds0, p0, q0, hargs, rfl, rfl, h0, r0⟩ := trodAll_cons hA
  obtain ⟨v1, vs1, d1, ds1, p1, q1, rfl, rfl, rfl, h1, r1⟩ := trodAll_cons r0
  obtain ⟨v2, vs2, d2, ds2, p2, q2, rfl, rfl, rfl, h2, r2⟩ := trodAll_cons r1
  obtain ⟨rfl, rfl, rfl⟩ := trodAll_nil r2
  obtain rfl : args = #[v0, v1, v2] := by cases args; simp_all
  obtain ⟨rfl, rfl⟩ := trodVars_none hV
  obtain ⟨a0, len0, cap0, rfl⟩ := okWide_slice Try.underlying22 (hval 0 22 v0 rfl rfl)
  have k0 := h0
  have lt0 : ∀ x ∈ p0, x.block < W.heap.size := by obtain ⟨m, hm⟩ := k0; exact DataW.trod_lt m _ _ _ hm
  obtain ⟨z0, rfl, g01, g02, g03, g04, g05⟩ := open_rdI Try.underlying22 Try.underlying2 (by kernel_rfl) h0
  obtain ⟨a1, len1, cap1, rfl⟩ := okWide_slice Try.underlying26 (hval 1 26 v1 rfl rfl)
  have k1 := h1
  have lt1 : ∀ x ∈ p1, x.block < W.heap.size := by obtain ⟨m, hm⟩ := k1; exact DataW.trod_lt m _ _ _ hm
  obtain ⟨z1, rfl, g11, g12, g13, g14, g15⟩ := open_rdI Try.underlying26 Try.underlying61 (by kernel_rfl) h1
  obtain ⟨a2, rfl, rfl, rfl, w2⟩ := open_int Try.underlying31 (hval 2 31 v2 rfl rfl) h2
  have hb0 : z0.length * 8 ≤ 140737488351232 := by
    rcases g05 with ⟨_, h⟩ | ⟨sp, rfl, hs⟩
    · rw [h]; omega
    · have := sized_slice hsz (j := 0) (t := 22) (e := 2) rfl rfl Try.underlying22
      rw [show Try.prog.bytesOf 2 = 8 from by kernel_rfl] at this
      simp only [lits, List.length_map, reachBytes] at this
      omega
  have hb1 : z1.length * 1 ≤ 140737488351232 := by
    rcases g15 with ⟨_, h⟩ | ⟨sp, rfl, hs⟩
    · rw [h]; omega
    · have := sized_slice hsz (j := 1) (t := 26) (e := 61) rfl rfl Try.underlying26
      rw [show Try.prog.bytesOf 61 = 1 from by kernel_rfl] at this
      simp only [lits, List.length_map, reachBytes] at this
      omega
  clear hA0 hval0 hsz0
  refine (lawContents_walk a0 a1 cap0 cap1 z0 z1 a2 W g03 g13 (fun z hz => wf_i64_bd (g04 z hz)) (fun z hz => wf_i8_bd (g14 z hz)) (by omega) (by omega) (wf_i16_bd w2).1 (wf_i16_bd w2).2).mono fun e W' ⟨he, bel0⟩ => ?_
  have bel : Below W.heap.size W W' := bel0
  subst he
  exact ⟨_, rfl, _, _, _, [], _, [], hW', trodAll_mk1 (shut_bool Try.underlying4 _), (trodAll_cons_mk (Below.trod Try.laidOut_ (by kernel_rfl) (of_decide_eq_true (by kernel_rfl)) k0 bel lt0) (trodAll_cons_mk (Below.trod Try.laidOut_ (by kernel_rfl) (of_decide_eq_true (by kernel_rfl)) k1 bel lt1) (trodAll_cons_mk (shut_int Try.underlying31 w2) trodAll_mk0))), rfl, bel.frame _, fun h => by cases h⟩

theorem vectorContents_holds : Rows.VectorContentsSaid :=
  OpenClaim.holds_of_wide 5 Try.f5 rfl rfl rfl rfl rfl rfl rfl ⟨rfl, rfl, rfl, rfl, rfl⟩ rfl rfl rfl rfl rfl (by kernel_rfl) Try.func5 (by kernel_rfl)
    (of_decide_eq_true (by kernel_rfl)) (by unfold Func.isWrapper; first | (rw [if_pos (by decide +kernel)]; kernel_rfl) | (rw [if_neg (by decide +kernel)]; exact ⟨rfl, rfl⟩))
    (fun os started H enc _ => vectorContents_lifted os started H enc)
#print axioms vectorContents_holds
end Go.Proofs.Ytennjcjjegbhgaa
