/-
  Proved: the statement VectorNormsSaid: for every input the law quadformlaw09.VectorNorms returns true, and each argument reads afterwards as it read before. No condition.
-/
import Derived.Test.YtennjcjjegbhgaaGreatP16
set_option linter.all false
namespace Go.Proofs.YtennjcjjegbhgaaGreat
open Go.ChangeShapes Go.WideShapes Go.ChangeAt Go.RowKit
set_option maxRecDepth 100000 in
theorem vectorNorms_lifted (os : Os) (started : os.Started) (H : Type) (enc : TypeId × Value → H) :
    ReturnsInHanded {} Tryz.checked os 4 .any (Rows.vectorNormsSpec.pre6 enc Tryz.prog Tryz.f4 Rows.vectorNormsRow.domain false) (Rows.vectorNormsSpec.post enc Tryz.prog Tryz.f4 false true false false) := by
  refine returnsInHanded_of_change_sized (C := Tryz.checked) Tryz.ownKnob_ started (by kernel_rfl) Tryz.func4
    (ChangeSpec.witness6 (enc := enc) (C := Tryz.checked) false ⟨#[], #[.agg #[.int .u8 0, .int .u8 0, .slice none 0 0, .slice none 0 0], .slice none 0 0, .slice none 0 0], []⟩ 8 (by kernel_rfl) (by kernel_rfl) (by kernel_rfl) (by kernel_rfl)) ?_
  intro W base args ds gs before hval0 hW hcnd hsz0 _
  have hval : ∀ (j : Nat) t v, Tryz.f4.params[j]? = some t → args[j]? = some v → Value.okWide Tryz.prog W .any base t v := hval0
  have hsz : (DataW.weightsEach Tryz.prog (Tryz.f4.params.toList ++ Rows.vectorNormsSpec.plain.varTypes Tryz.prog) (ds ++ gs)).all (· ≤ reachBytes) = true := hsz0
  have hW' := hW
  obtain ⟨p, q, hA0, hV, rfl, hfz, hnd⟩ := hW
  have hA : DataW.TrodAll enc Tryz.prog W 0 (fun _ => true) true Tryz.f4.params.toList args.toList ds p := hA0
  rw [Tryz.params4] at hA hval hsz
  obtain ⟨v0, vs0, d0, ds0, p0, q0, hargs, rfl, rfl, h0, r0⟩ := trodAll_cons hA
  obtain ⟨v1, vs1, d1, ds1, p1, q1, rfl, rfl, rfl, h1, r1⟩ := trodAll_cons r0
  obtain ⟨v2, vs2, d2, ds2, p2, q2, rfl, rfl, rfl, h2, r2⟩ := trodAll_cons r1
  obtain ⟨rfl, rfl, rfl⟩ := trodAll_nil r2
  obtain rfl : args = #[v0, v1, v2] := by cases args; simp_all
  obtain ⟨rfl, rfl⟩ := trodVars_none hV
  have k0 := h0
  have lt0 : ∀ x ∈ p0, x.block < W.heap.size := by obtain ⟨m, hm⟩ := k0; exact DataW.trod_lt m _ _ _ hm
  obtain ⟨u00, u01, u02, u03, y00, y01, y02, y03, n0, rfl, rfl, rfl, q00, q01, q02, q03⟩ := Go.Joins.open_agg4 Tryz.underlying26 (by kernel_rfl) (by kernel_rfl) (hval 0 26 v0 rfl rfl) h0
  obtain ⟨dim0, rfl, hd0⟩ := open_cellU Tryz.underlying5 q00
  obtain ⟨kind0, rfl, hk0⟩ := open_cellU Tryz.underlying5 q01
  obtain ⟨L0, rL0, hL0⟩ := open_cell8 Tryz.underlying24 Tryz.underlying47 (by kernel_rfl) q02
  obtain ⟨B0, rB0, hB0⟩ := open_cell8 Tryz.underlying24 Tryz.underlying47 (by kernel_rfl) q03
  have k1 := h1
  have lt1 : ∀ x ∈ p1, x.block < W.heap.size := by obtain ⟨m, hm⟩ := k1; exact DataW.trod_lt m _ _ _ hm
  obtain ⟨a1, len1, cap1, rfl⟩ := okWide_slice Tryz.underlying24 (hval 1 24 v1 rfl rfl)
  obtain ⟨z1, g1, i1⟩ : ∃ L : List Int, Rep (fun _ => False) W (.sl (ls f8 L)) (.slice a1 len1 cap1) ∧ I8 L := by obtain ⟨m, hm⟩ := h1; exact open_cell8 (y := (d1, p1)) Tryz.underlying24 Tryz.underlying47 (by kernel_rfl) (by simpa [Value.cells] using hm)
  have k2 := h2
  have lt2 : ∀ x ∈ p2, x.block < W.heap.size := by obtain ⟨m, hm⟩ := k2; exact DataW.trod_lt m _ _ _ hm
  obtain ⟨a2, len2, cap2, rfl⟩ := okWide_slice Tryz.underlying24 (hval 2 24 v2 rfl rfl)
  obtain ⟨z2, g2, i2⟩ : ∃ L : List Int, Rep (fun _ => False) W (.sl (ls f8 L)) (.slice a2 len2 cap2) ∧ I8 L := by obtain ⟨m, hm⟩ := h2; exact open_cell8 (y := (d2, p2)) Tryz.underlying24 Tryz.underlying47 (by kernel_rfl) (by simpa [Value.cells] using hm)
  clear hA0 hval0 hsz0
  refine ((lawNorms_C dim0 kind0 L0 B0 z1 z2 hL0 hd0 hk0 i1 i2).law (vs := #[.agg #[.int .u8 (dim0 : Int), .int .u8 (kind0 : Int), u02, u03], .slice a1 len1 cap1, .slice a2 len2 cap2]) rfl (argsT (vs := [.agg #[.int .u8 (dim0 : Int), .int .u8 (kind0 : Int), u02, u03], .slice a1 len1 cap1, .slice a2 len2 cap2]) rfl (fun j t v ht hv => by
    match j, ht, hv with
    | 0, ht, hv => simp at ht hv; subst ht; subst hv; exact rel_L rL0 rB0
    | 1, ht, hv => simp at ht hv; subst ht; subst hv; exact g1
    | 2, ht, hv => simp at ht hv; subst ht; subst hv; exact g2
    | j + 3, ht, hv => simp at ht))).mono fun e W' ⟨he, bel0⟩ => ?_
  have bel : Below W.heap.size W W' := bel0
  subst he
  exact ⟨_, rfl, _, _, _, [], _, [], hW', trodAll_mk1 (shut_bool Tryz.underlying4 _), (trodAll_cons_mk (Below.trod Tryz.laidOut_ (by kernel_rfl) (of_decide_eq_true (by kernel_rfl)) k0 bel lt0) (trodAll_cons_mk (Below.trod Tryz.laidOut_ (by kernel_rfl) (of_decide_eq_true (by kernel_rfl)) k1 bel lt1) (trodAll_cons_mk (Below.trod Tryz.laidOut_ (by kernel_rfl) (of_decide_eq_true (by kernel_rfl)) k2 bel lt2) trodAll_mk0))), rfl, bel.frame _, fun h => by cases h⟩
theorem vectorNorms_holds : Rows.VectorNormsSaid :=
  OpenClaim.holds_of_wide 4 Tryz.f4 rfl rfl rfl rfl rfl rfl rfl ⟨rfl, rfl, rfl, rfl, rfl⟩ rfl rfl rfl rfl rfl (by kernel_rfl) Tryz.func4 (by kernel_rfl)
    (of_decide_eq_true (by kernel_rfl)) (by unfold Func.isWrapper; first | (rw [if_pos (by decide +kernel)]; kernel_rfl) | (rw [if_neg (by decide +kernel)]; exact ⟨rfl, rfl⟩))
    (fun os started H enc _ => vectorNorms_lifted os started H enc)
#print axioms vectorNorms_holds
end Go.Proofs.YtennjcjjegbhgaaGreat
