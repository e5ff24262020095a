/-
  Proved: the statement VectorValidSaid: for every input the law quadformlaw09.VectorValid returns true, and each argument reads afterwards as it read before. No condition.
-/
import Derived.Test.YtennjcjjegbhgaaGreatP16
set_option linter.all false
namespace Go.Proofs.YtennjcjjegbhgaaGreat
open Go.RowKit
set_option maxRecDepth 100000 in
set_option maxHeartbeats 16000000 in
theorem lawValid_C (H : List (List Int)) (y : List Int) (dim kind : Nat) (L B K : List Int) (far : Bool) (hH : MI H) (hL : I8 L) (hdim : dim ≤ 255) (hkind : kind ≤ 255) (hK : I8 K) :
    CallC Tryz.prog 3 [slI H, sl1 y, tL dim kind L B, sl8 K, .raw (.bool far)] ⟨[], .raw (.bool true)⟩ := by
  obtain ⟨n, hn⟩ : ∃ n, n = 1 + dim % 4 := ⟨_, rfl⟩
  obtain ⟨h, hr, cF⟩ := Form_C dim kind L B 4 n hL hdim hkind (by omega) (by omega) hn
  rw [show ((4 : Nat) : Int) = 4 from rfl] at cF
  have hM := MI_red (by omega) (by omega) hr
  have hml := mat_len n n h
  have v1 := Vector_C K n hK (by omega)
  have hv0 := hK.getD (adv K 0 0)
  have hvk : ∀ j, vcF K j = K.getD (adv K 0 j) 0 := fun _ => rfl
  rw [← hvk 0] at hv0
  generalize mat n n h = M at *
  generalize vcF K = vk at *
  have c5 := awake_C
  have p1 := pValid_C H y
  have p2 := Valid_C H y hH
  have p3 := pValid_C M y
  have p4 := Valid_C M y hM
  have g0 := rowF_get (m := n) vk (j := 0) (by omega)
  have hbd := tmod3 (vk 0)
  obtain ⟨q, hq⟩ : ∃ q, Int.tmod (vk 0) 3 = q := ⟨_, rfl⟩
  rw [hq] at hbd
  refine callC_of Tryz.func3 rfl (by kernel_rfl) ?_; rw [Tryz.ntmps3]
  (refine WpA_sreg [] [] (by simp) fun K hK => ?_; simp (disch := omega) only [kc, prep1, slI, sl1, tL, sl8, Nat.reduceAdd, List.replicate, opS_box, newS, effA, cellsOf, isPure, ifT, ofConst, Value.oneCell']; (with_reducible refine hK _ ?_))
  (refine WpA_sreg [⟨1, _, _, _, cF⟩] [] (by simp) fun K hK => ?_; simp (disch := omega) only [kc, tL, slI, CItem.a, prep1, Nat.reduceAdd, effR, updH, packT, ty_sz26, ty_agg26, Nat.le_refl, opS_call, newS, effA, List.find?_cons, evAll, ofConst, Value.oneCell', norm, CallRes.plain, rawTV, rawAV, normOk, isPure, noRefTV, noRefAV, renTV, renAV]; (with_reducible refine hK _ ?_))
  (refine WpA_sreg [⟨3, _, _, _, v1⟩] [] (by simp) fun K hK => ?_; simp (disch := omega) only [kc, sl8, CItem.a, prep1, Nat.reduceAdd, opS_len, effR, ty_slice22, ls_len, hml, opS_call, newS, effA, List.find?_cons, evAll, norm, CallRes.plain, List.isEmpty_cons, rawTV, rawAV, normOk, Bool.not_false, noRefTV, noRefAV, Bool.or_false, renTV, renAV, renO, lc_ren, updH, Nat.reduceEqDiff]; (with_reducible refine hK _ ?_))
  (refine WpA_seq (WpA_sreg [] [] (by simp) fun K hK => ?_); simp (disch := omega) only [kc, prep1]; (with_reducible refine hK _ ?_))
  refine WpA.weak (Weak_sub (tm := [slI H, sl1 y, jk, jk, jk, jk, jk, jk, jk, jk, jk, slI M, .one (.sl 18 0 0 n), jk, jk, jk, jk, jk, jk, .raw (.bool far), jk, jk, jk, jk, jk, jk, jk, jk, jk, jk, jk, jk, jk, jk, jk, jk, jk, jk, jk, jk, jk, jk, jk, jk, jk, jk, jk, jk, jk, jk, jk, jk, jk, jk, jk]) (l := [(18, [⟨2, 1, lc fI (rowF n vk)⟩])]) ⟨by simp [updH, Hm, renO, lc_ren], trivial⟩ (by simp [wkL, okTV, okAV])) ?_
  have fin : ∀ w : List Int, w.length = n → ∀ {c : Code} {Q : Exit → AS → Prop}, True := fun _ _ _ _ => trivial
  cases far with
  | true =>
    refine WpA_cond rfl (fun _ => ?_) (fun h => by simp at h)
    ((refine WpA_lreg [] [] (by simp) fun K hK => ?_); simp (disch := omega) only [kc, prep1, Nat.reduceAdd, slI, sl1, Hm, opS_indexAddr, effR, ofConst, Value.oneCell', natOf_pos, Int.reduceToNat, ty_slice23, ty_sz2, Nat.add_zero, ifT, lc_get, fI, g0, packT, ty_agg2, effM, evBin, hq, wrapI, opS_store, wrS, effD, cellsOf, Nat.le_refl, isPure, putCells, lcI_set, rowF_set, killTV, killAV]; (with_reducible refine hK _ ?_))
    show WpA _ _ _ _
    refine WpA.weak ((Weak_fz 18 (fzOk_one rfl)).trans (Weak_sub (tm := [slI H, sl1 y, jk, jk, jk, jk, jk, jk, jk, jk, jk, slI M, sl1 (rowF n fun c => if c = 0 then 1099511627775 + q else vk c), jk, jk, jk, jk, jk, jk, jk, jk, jk, jk, jk, jk, jk, jk, jk, jk, jk, jk, jk, jk, jk, jk, jk, jk, jk, jk, jk, jk, jk, jk, jk, jk, jk, jk, jk, jk, jk, jk, jk, jk, jk, jk]) (l := []) trivial (by simp [wkL, okTV, okAV, fzTV, fzAV, updH, Hm, lc_take, lc_cellF, List.take_of_length_le, rowF_len]))) ?_
    generalize (fun c => if c = 0 then 1099511627775 + q else vk c) = w at *
    have p5 := pValid_C M (rowF n w)
    have p6 := Valid_C M (rowF n w) hM
    generalize validM H y = b1 at *
    generalize validM M y = b2 at *
    generalize validM M (rowF n w) = b3 at *
    (refine WpA_sreg [⟨2, _, _, _, p1⟩, ⟨5, _, _, _, p2⟩, ⟨10, _, _, _, p3⟩, ⟨13, _, _, _, p4⟩, ⟨19, _, _, _, p5⟩, ⟨22, _, _, _, p6⟩, ⟨26, _, _, _, c5⟩] [] (by simp) fun K hK => ?_; simp (disch := omega) only [kc, slI, sl1, CItem.a, prep1, Nat.reduceAdd, Hm, opS_call, newS, effA, List.find?_cons, evAll, norm, CallRes.plain, rawTV, rawAV, normOk, noRefTV, noRefAV, renTV, renAV, Nat.reduceBEq, effM, evBin, ty_bool4, stS_guard, ifT, opS_pick]; (with_reducible refine hK _ ?_))
    (refine WpA_ret ⟨.inr rfl, ret_now rfl ?_ rfl⟩; simp (disch := omega) only [resA, Tryz.results3, resOne, List.getElem?_cons_succ, List.getElem?_cons_zero])
  | false =>
    refine WpA_cond rfl (fun h => by simp at h) (fun _ => WpA_skip ?_)
    show WpA _ _ _ _
    refine WpA.weak ((Weak_fz 18 (fzOk_one rfl)).trans (Weak_sub (tm := [slI H, sl1 y, jk, jk, jk, jk, jk, jk, jk, jk, jk, slI M, sl1 (rowF n vk), jk, jk, jk, jk, jk, jk, jk, jk, jk, jk, jk, jk, jk, jk, jk, jk, jk, jk, jk, jk, jk, jk, jk, jk, jk, jk, jk, jk, jk, jk, jk, jk, jk, jk, jk, jk, jk, jk, jk, jk, jk, jk]) (l := []) trivial (by simp [wkL, okTV, okAV, fzTV, fzAV, updH, Hm, lc_take, lc_cellF, List.take_of_length_le, rowF_len]))) ?_
    have p5 := pValid_C M (rowF n vk)
    have p6 := Valid_C M (rowF n vk) hM
    generalize validM H y = b1 at *
    generalize validM M y = b2 at *
    generalize validM M (rowF n vk) = b3 at *
    (refine WpA_sreg [⟨2, _, _, _, p1⟩, ⟨5, _, _, _, p2⟩, ⟨10, _, _, _, p3⟩, ⟨13, _, _, _, p4⟩, ⟨19, _, _, _, p5⟩, ⟨22, _, _, _, p6⟩, ⟨26, _, _, _, c5⟩] [] (by simp) fun K hK => ?_; simp (disch := omega) only [kc, slI, sl1, CItem.a, prep1, Nat.reduceAdd, Hm, opS_call, newS, effA, List.find?_cons, evAll, norm, CallRes.plain, rawTV, rawAV, normOk, noRefTV, noRefAV, renTV, renAV, Nat.reduceBEq, effM, evBin, ty_bool4, stS_guard, ifT, opS_pick]; (with_reducible refine hK _ ?_))
    (refine WpA_ret ⟨.inr rfl, ret_now rfl ?_ rfl⟩; simp (disch := omega) only [resA, Tryz.results3, resOne, List.getElem?_cons_succ, List.getElem?_cons_zero])
end Go.Proofs.YtennjcjjegbhgaaGreat
namespace Go.Proofs.YtennjcjjegbhgaaGreat
open Go.ChangeShapes Go.WideShapes Go.ChangeAt Go.RowKit
set_option maxRecDepth 100000 in
theorem vectorValid_lifted (os : Os) (started : os.Started) (H : Type) (enc : TypeId × Value → H) :
    ReturnsInHanded {} Tryz.checked os 3 .any (Rows.vectorValidSpec.pre6 enc Tryz.prog Tryz.f3 Rows.vectorValidRow.domain false) (Rows.vectorValidSpec.post enc Tryz.prog Tryz.f3 false true false false) := by
  refine returnsInHanded_of_change_sized (C := Tryz.checked) Tryz.ownKnob_ started (by kernel_rfl) Tryz.func3
    (ChangeSpec.witness6 (enc := enc) (C := Tryz.checked) false ⟨#[], #[.slice none 0 0, .slice none 0 0, .agg #[.int .u8 0, .int .u8 0, .slice none 0 0, .slice none 0 0], .slice none 0 0, .bool false], []⟩ 8 (by kernel_rfl) (by kernel_rfl) (by kernel_rfl) (by kernel_rfl)) ?_
  intro W base args ds gs before hval0 hW hcnd hsz0 _
  have hval : ∀ (j : Nat) t v, Tryz.f3.params[j]? = some t → args[j]? = some v → Value.okWide Tryz.prog W .any base t v := hval0
  have hsz : (DataW.weightsEach Tryz.prog (Tryz.f3.params.toList ++ Rows.vectorValidSpec.plain.varTypes Tryz.prog) (ds ++ gs)).all (· ≤ reachBytes) = true := hsz0
  have hW' := hW
  obtain ⟨p, q, hA0, hV, rfl, hfz, hnd⟩ := hW
  have hA : DataW.TrodAll enc Tryz.prog W 0 (fun _ => true) true Tryz.f3.params.toList args.toList ds p := hA0
  rw [Tryz.params3] at hA hval hsz
  obtain ⟨v0, vs0, d0, ds0, p0, q0, hargs, rfl, rfl, h0, r0⟩ := trodAll_cons hA
  obtain ⟨v1, vs1, d1, ds1, p1, q1, rfl, rfl, rfl, h1, r1⟩ := trodAll_cons r0
  obtain ⟨v2, vs2, d2, ds2, p2, q2, rfl, rfl, rfl, h2, r2⟩ := trodAll_cons r1
  obtain ⟨v3, vs3, d3, ds3, p3, q3, rfl, rfl, rfl, h3, r3⟩ := trodAll_cons r2
  obtain ⟨v4, vs4, d4, ds4, p4, q4, rfl, rfl, rfl, h4, r4⟩ := trodAll_cons r3
  obtain ⟨rfl, rfl, rfl⟩ := trodAll_nil r4
  obtain rfl : args = #[v0, v1, v2, v3, v4] := by cases args; simp_all
  obtain ⟨rfl, rfl⟩ := trodVars_none hV
  obtain ⟨a0, len0, cap0, rfl⟩ := okWide_slice Tryz.underlying22 (hval 0 22 v0 rfl rfl)
  have k0 := h0
  have lt0 : ∀ x ∈ p0, x.block < W.heap.size := by obtain ⟨m, hm⟩ := k0; exact DataW.trod_lt m _ _ _ hm
  obtain ⟨z0, rfl, g01, g02, g03, g04⟩ := open_rdM Tryz.underlying22 Tryz.underlying23 Tryz.underlying2 (by kernel_rfl) (by kernel_rfl) h0
  obtain ⟨a1, len1, cap1, rfl⟩ := okWide_slice Tryz.underlying23 (hval 1 23 v1 rfl rfl)
  have k1 := h1
  have lt1 : ∀ x ∈ p1, x.block < W.heap.size := by obtain ⟨m, hm⟩ := k1; exact DataW.trod_lt m _ _ _ hm
  obtain ⟨z1, rfl, g11, g12, g13, g14, g15⟩ := open_rdI Tryz.underlying23 Tryz.underlying2 (by kernel_rfl) h1
  have k2 := h2
  have lt2 : ∀ x ∈ p2, x.block < W.heap.size := by obtain ⟨m, hm⟩ := k2; exact DataW.trod_lt m _ _ _ hm
  obtain ⟨u20, u21, u22, u23, y20, y21, y22, y23, n2, rfl, rfl, rfl, q20, q21, q22, q23⟩ := Go.Joins.open_agg4 Tryz.underlying26 (by kernel_rfl) (by kernel_rfl) (hval 2 26 v2 rfl rfl) h2
  obtain ⟨dim2, rfl, hd2⟩ := open_cellU Tryz.underlying5 q20
  obtain ⟨kind2, rfl, hk2⟩ := open_cellU Tryz.underlying5 q21
  obtain ⟨L2, rL2, hL2⟩ := open_cell8 Tryz.underlying24 Tryz.underlying47 (by kernel_rfl) q22
  obtain ⟨B2, rB2, hB2⟩ := open_cell8 Tryz.underlying24 Tryz.underlying47 (by kernel_rfl) q23
  have k3 := h3
  have lt3 : ∀ x ∈ p3, x.block < W.heap.size := by obtain ⟨m, hm⟩ := k3; exact DataW.trod_lt m _ _ _ hm
  obtain ⟨a3, len3, cap3, rfl⟩ := okWide_slice Tryz.underlying24 (hval 3 24 v3 rfl rfl)
  obtain ⟨z3, g3, i3⟩ : ∃ L : List Int, Rep (fun _ => False) W (.sl (ls f8 L)) (.slice a3 len3 cap3) ∧ I8 L := by obtain ⟨m, hm⟩ := h3; exact open_cell8 (y := (d3, p3)) Tryz.underlying24 Tryz.underlying47 (by kernel_rfl) (by simpa [Value.cells] using hm)
  obtain ⟨a4, rfl, rfl, rfl⟩ := open_bool Tryz.underlying4 (hval 4 4 v4 rfl rfl) h4
  clear hA0 hval0 hsz0
  refine ((lawValid_C z0 z1 dim2 kind2 L2 B2 z3 a4 (fun r hr z hz => wf_i64_bd (g04 r hr z hz)) hL2 hd2 hk2 i3).law (vs := #[.slice a0 z0.length cap0, .slice a1 z1.length cap1, .agg #[.int .u8 (dim2 : Int), .int .u8 (kind2 : Int), u22, u23], .slice a3 len3 cap3, .bool a4]) rfl (argsT (vs := [.slice a0 z0.length cap0, .slice a1 z1.length cap1, .agg #[.int .u8 (dim2 : Int), .int .u8 (kind2 : Int), u22, u23], .slice a3 len3 cap3, .bool a4]) rfl (fun j t v ht hv => by
    match j, ht, hv with
    | 0, ht, hv => simp at ht hv; subst ht; subst hv; exact rdM_rep g01 (by unfold maxLen at g02; omega) g03
    | 1, ht, hv => simp at ht hv; subst ht; subst hv; exact rdI_rep g11 (by unfold maxLen at g12; omega) g13
    | 2, ht, hv => simp at ht hv; subst ht; subst hv; exact rel_L rL2 rB2
    | 3, ht, hv => simp at ht hv; subst ht; subst hv; exact g3
    | 4, ht, hv => simp at ht hv; subst ht; subst hv; exact Rep.raw _ rfl
    | j + 5, ht, hv => simp at ht))).mono fun e W' ⟨he, bel0⟩ => ?_
  have bel : Below W.heap.size W W' := bel0
  subst he
  exact ⟨_, rfl, _, _, _, [], _, [], hW', trodAll_mk1 (shut_bool Tryz.underlying4 _), (trodAll_cons_mk (Below.trod Tryz.laidOut_ (by kernel_rfl) (of_decide_eq_true (by kernel_rfl)) k0 bel lt0) (trodAll_cons_mk (Below.trod Tryz.laidOut_ (by kernel_rfl) (of_decide_eq_true (by kernel_rfl)) k1 bel lt1) (trodAll_cons_mk (Below.trod Tryz.laidOut_ (by kernel_rfl) (of_decide_eq_true (by kernel_rfl)) k2 bel lt2) (trodAll_cons_mk (Below.trod Tryz.laidOut_ (by kernel_rfl) (of_decide_eq_true (by kernel_rfl)) k3 bel lt3) (trodAll_cons_mk (shut_bool Tryz.underlying4 a4) trodAll_mk0))))), rfl, bel.frame _, fun h => by cases h⟩
theorem vectorValid_holds : Rows.VectorValidSaid :=
  OpenClaim.holds_of_wide 3 Tryz.f3 rfl rfl rfl rfl rfl rfl rfl ⟨rfl, rfl, rfl, rfl, rfl⟩ rfl rfl rfl rfl rfl (by kernel_rfl) Tryz.func3 (by kernel_rfl)
    (of_decide_eq_true (by kernel_rfl)) (by unfold Func.isWrapper; first | (rw [if_pos (by decide +kernel)]; kernel_rfl) | (rw [if_neg (by decide +kernel)]; exact ⟨rfl, rfl⟩))
    (fun os started H enc _ => vectorValid_lifted os started H enc)
#print axioms vectorValid_holds
end Go.Proofs.YtennjcjjegbhgaaGreat
