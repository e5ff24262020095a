/-
  Proved: the statement VectorRefusesSaid: for every input the law quadformlaw09.VectorRefuses returns true, and each argument reads afterwards as it read before. No condition.
-/
import Derived.Test.YtennjcjjegbhgaaGreatP09

namespace Go.Proofs.YtennjcjjegbhgaaGreat
open Go.ChangeShapes Go.WideShapes Go.ChangeAt Go.RowKit


set_option maxRecDepth 100000 in
set_option maxHeartbeats 8000000 in
theorem lawRefuses_C (M : List (List Int)) (x y : List Int) (hM : MI M) : CallC Tryz.prog 6 [slI M, sl1 x, sl1 y] ⟨[], .raw (.bool true)⟩ := by
  have c1 := pNorm_C M x
  have c2 := Norm_C M x hM
  have c3 := pInner_C M x y
  have c4 := Inner_C M x y hM
  obtain ⟨v, b, e1, _⟩ := innT_cases M x x
  obtain ⟨v', b', e2, _⟩ := innT_cases M x y
  rw [e1] at c1 c2
  rw [e2] at c3 c4
  have c5 := awake_C
  refine callC_of Tryz.func6 rfl (by kernel_rfl) ?_; rw [Tryz.ntmps6]
  ((first | refine WpA_sreg [] [] (by simp) fun K hK => ?_ | refine WpA_seq (WpA_sreg [] [] (by simp) fun K hK => ?_) | refine WpA_seq (WpA_seq (WpA_sreg [] [] (by simp) fun K hK => ?_))); simp (disch := omega) only [prepL, prep1, slI, sl1, List.length_cons, List.length_nil, Nat.zero_add, Nat.reduceAdd, List.replicate, List.cons_append, List.nil_append, runS_cons, opS_assign, AS.ev, ofConst, Value.oneCell', if_true, Option.map_some, AS.put, List.set_cons_succ, List.set_cons_zero, runS_nil]; (with_reducible refine hK _ ?_); clear hK K)
  ((first | refine WpA_sreg [⟨2, _, _, _, c1⟩] [] (by simp) fun K hK => ?_ | refine WpA_seq (WpA_sreg [⟨2, _, _, _, c1⟩] [] (by simp) fun K hK => ?_) | refine WpA_seq (WpA_seq (WpA_sreg [⟨2, _, _, _, c1⟩] [] (by simp) fun K hK => ?_))); simp (disch := omega) only [slI, sl1, tvI, prepL, prep1, Nat.zero_add, Nat.reduceAdd, runS_cons, opS_move, AS.ev, List.getElem?_cons_zero, Option.map_some, AS.put, List.set_cons_succ, List.set_cons_zero, List.getElem?_cons_succ, opS_call, newS, effA, List.find?_cons, beq_self_eq_true, evAll, List.map_cons, norm, List.map_nil, CallRes.plain, List.isEmpty_nil, rawTV, List.all_cons, rawAV, List.all_nil, Bool.and_self, normOk, Bool.not_true, noRefTV, noRefAV, Bool.or_true, and_self, renTV, renAV, if_true, opS_extract, effM, opS_assign, runS_nil]; (with_reducible refine hK _ ?_); clear hK K)
  ((first | refine WpA_sreg [⟨2, _, _, _, c2⟩] [] (by simp) fun K hK => ?_ | refine WpA_seq (WpA_sreg [⟨2, _, _, _, c2⟩] [] (by simp) fun K hK => ?_) | refine WpA_seq (WpA_seq (WpA_sreg [⟨2, _, _, _, c2⟩] [] (by simp) fun K hK => ?_))); simp (disch := omega) only [slI, sl1, tvI, prepL, prep1, Nat.zero_add, Nat.reduceAdd, runS_cons, opS_move, AS.ev, List.getElem?_cons_zero, Option.map_some, AS.put, List.set_cons_succ, List.set_cons_zero, List.getElem?_cons_succ, opS_call, newS, effA, List.find?_cons, beq_self_eq_true, evAll, List.map_cons, norm, List.map_nil, CallRes.plain, List.isEmpty_nil, rawTV, List.all_cons, rawAV, List.all_nil, Bool.and_self, normOk, Bool.not_true, noRefTV, noRefAV, Bool.or_true, and_self, renTV, renAV, if_true, opS_extract, effM, opS_assign, runS_nil]; (with_reducible refine hK _ ?_); clear hK K)
  ((first | refine WpA_sreg [⟨3, _, _, _, c3⟩] [] (by simp) fun K hK => ?_ | refine WpA_seq (WpA_sreg [⟨3, _, _, _, c3⟩] [] (by simp) fun K hK => ?_) | refine WpA_seq (WpA_seq (WpA_sreg [⟨3, _, _, _, c3⟩] [] (by simp) fun K hK => ?_))); simp (disch := omega) only [slI, sl1, tvI, prepL, prep1, Nat.zero_add, Nat.reduceAdd, runS_cons, opS_move, AS.ev, List.getElem?_cons_zero, Option.map_some, AS.put, List.set_cons_succ, List.set_cons_zero, List.getElem?_cons_succ, opS_call, newS, effA, List.find?_cons, beq_self_eq_true, evAll, List.map_cons, norm, List.map_nil, CallRes.plain, List.isEmpty_nil, rawTV, List.all_cons, rawAV, List.all_nil, Bool.and_self, normOk, Bool.not_true, noRefTV, noRefAV, Bool.or_true, and_self, renTV, renAV, if_true, opS_extract, effM, opS_assign, runS_nil]; (with_reducible refine hK _ ?_); clear hK K)
  ((first | refine WpA_sreg [⟨3, _, _, _, c4⟩] [] (by simp) fun K hK => ?_ | refine WpA_seq (WpA_sreg [⟨3, _, _, _, c4⟩] [] (by simp) fun K hK => ?_) | refine WpA_seq (WpA_seq (WpA_sreg [⟨3, _, _, _, c4⟩] [] (by simp) fun K hK => ?_))); simp (disch := omega) only [slI, sl1, tvI, prepL, prep1, Nat.zero_add, Nat.reduceAdd, runS_cons, opS_move, AS.ev, List.getElem?_cons_zero, Option.map_some, AS.put, List.set_cons_succ, List.set_cons_zero, List.getElem?_cons_succ, opS_call, newS, effA, List.find?_cons, beq_self_eq_true, evAll, List.map_cons, norm, List.map_nil, CallRes.plain, List.isEmpty_nil, rawTV, List.all_cons, rawAV, List.all_nil, Bool.and_self, normOk, Bool.not_true, noRefTV, noRefAV, Bool.or_true, and_self, renTV, renAV, if_true, opS_extract, effM, opS_assign, runS_nil]; (with_reducible refine hK _ ?_); clear hK K)
  ((first | refine WpA_sreg [⟨19, _, _, _, c5⟩] [] (by simp) fun K hK => ?_ | refine WpA_seq (WpA_sreg [⟨19, _, _, _, c5⟩] [] (by simp) fun K hK => ?_) | refine WpA_seq (WpA_seq (WpA_sreg [⟨19, _, _, _, c5⟩] [] (by simp) fun K hK => ?_))); simp (disch := omega) only [prepL, prep1, Nat.zero_add, Nat.reduceAdd, List.getElem?_toArray, List.getElem?_cons_succ, List.getElem?_cons_zero, Option.bind_some, runS_cons, opS_move, AS.ev, Option.map_some, AS.put, List.set_cons_succ, List.set_cons_zero, opS_bin, effM, evBin, decT, if_true, stS_guard, ty_bool4, beq_self_eq_true, ifT, opS_pick, opS_call, newS, effA, List.find?_cons, evAll, List.map_nil, CallRes.plain, List.isEmpty_nil, rawTV, rawAV, Bool.and_self, List.all_nil, Bool.not_true, noRefTV, noRefAV, Bool.or_true, and_self, renTV, renAV, opS_assign, runS_nil]; (with_reducible refine hK _ ?_); clear hK K)
  (refine WpA_ret ⟨.inr rfl, ret_now rfl ?_ rfl⟩; simp (disch := omega) only [resA, Tryz.results6, resOne, List.getElem?_cons_succ, List.getElem?_cons_zero])

set_option maxRecDepth 100000 in
theorem vectorRefuses_lifted (os : Os) (started : os.Started) (H : Type) (enc : TypeId × Value → H) :
    ReturnsInHanded {} Tryz.checked os 6 .any (Rows.vectorRefusesSpec.pre6 enc Tryz.prog Tryz.f6 Rows.vectorRefusesRow.domain false) (Rows.vectorRefusesSpec.post enc Tryz.prog Tryz.f6 false true false false) := by
  refine returnsInHanded_of_change_sized (C := Tryz.checked) Tryz.ownKnob_ started (by kernel_rfl) Tryz.func6
    (ChangeSpec.witness6 (enc := enc) (C := Tryz.checked) false ⟨#[], #[.slice none 0 0, .slice none 0 0, .slice none 0 0], []⟩ 8 (by kernel_rfl) (by kernel_rfl) (by kernel_rfl) (by kernel_rfl)) ?_
  intro W base args ds gs before hval0 hW hcnd hsz0 _
  have hval : ∀ (j : Nat) t v, Tryz.f6.params[j]? = some t → args[j]? = some v → Value.okWide Tryz.prog W .any base t v := hval0
  have hsz : (DataW.weightsEach Tryz.prog (Tryz.f6.params.toList ++ Rows.vectorRefusesSpec.plain.varTypes Tryz.prog) (ds ++ gs)).all (· ≤ reachBytes) = true := hsz0
  have hW' := hW
  obtain ⟨p, q, hA0, hV, rfl, hfz, hnd⟩ := hW
  have hA : DataW.TrodAll enc Tryz.prog W 0 (fun _ => true) true Tryz.f6.params.toList args.toList ds p := hA0
  rw [Tryz.params6] at hA hval hsz
  obtain ⟨v0, vs0, d0, ds0, p0, q0, hargs, rfl, rfl, h0, r0⟩ := trodAll_cons hA
  obtain ⟨v1, vs1, d1, ds1, p1, q1, rfl, rfl, rfl, h1, r1⟩ := trodAll_cons r0
  obtain ⟨v2, vs2, d2, ds2, p2, q2, rfl, rfl, rfl, h2, r2⟩ := trodAll_cons r1
  obtain ⟨rfl, rfl, rfl⟩ := trodAll_nil r2
  obtain rfl : args = #[v0, v1, v2] := by cases args; simp_all
  obtain ⟨rfl, rfl⟩ := trodVars_none hV
  obtain ⟨a0, len0, cap0, rfl⟩ := okWide_slice Tryz.underlying22 (hval 0 22 v0 rfl rfl)
  have k0 := h0
  have lt0 : ∀ x ∈ p0, x.block < W.heap.size := by obtain ⟨m, hm⟩ := k0; exact DataW.trod_lt m _ _ _ hm
  obtain ⟨z0, rfl, g01, g02, g03, g04⟩ := open_rdM Tryz.underlying22 Tryz.underlying23 Tryz.underlying2 (by kernel_rfl) (by kernel_rfl) h0
  obtain ⟨a1, len1, cap1, rfl⟩ := okWide_slice Tryz.underlying23 (hval 1 23 v1 rfl rfl)
  have k1 := h1
  have lt1 : ∀ x ∈ p1, x.block < W.heap.size := by obtain ⟨m, hm⟩ := k1; exact DataW.trod_lt m _ _ _ hm
  obtain ⟨z1, rfl, g11, g12, g13, g14, g15⟩ := open_rdI Tryz.underlying23 Tryz.underlying2 (by kernel_rfl) h1
  obtain ⟨a2, len2, cap2, rfl⟩ := okWide_slice Tryz.underlying23 (hval 2 23 v2 rfl rfl)
  have k2 := h2
  have lt2 : ∀ x ∈ p2, x.block < W.heap.size := by obtain ⟨m, hm⟩ := k2; exact DataW.trod_lt m _ _ _ hm
  obtain ⟨z2, rfl, g21, g22, g23, g24, g25⟩ := open_rdI Tryz.underlying23 Tryz.underlying2 (by kernel_rfl) h2
  clear hA0 hval0 hsz0
  refine ((lawRefuses_C z0 z1 z2 (fun r hr z hz => wf_i64_bd (g04 r hr z hz))).law (vs := #[.slice a0 z0.length cap0, .slice a1 z1.length cap1, .slice a2 z2.length cap2]) rfl (args3 (rdM_rep g01 (by unfold maxLen at g02; omega) g03) (rdI_rep g11 (by unfold maxLen at g12; omega) g13) (rdI_rep g21 (by unfold maxLen at g22; omega) g23))).mono fun e W' ⟨he, bel0⟩ => ?_
  have bel : Below W.heap.size W W' := bel0
  subst he
  exact ⟨_, rfl, _, _, _, [], _, [], hW', trodAll_mk1 (shut_bool Tryz.underlying4 _), (trodAll_cons_mk (Below.trod Tryz.laidOut_ (by kernel_rfl) (of_decide_eq_true (by kernel_rfl)) k0 bel lt0) (trodAll_cons_mk (Below.trod Tryz.laidOut_ (by kernel_rfl) (of_decide_eq_true (by kernel_rfl)) k1 bel lt1) (trodAll_cons_mk (Below.trod Tryz.laidOut_ (by kernel_rfl) (of_decide_eq_true (by kernel_rfl)) k2 bel lt2) trodAll_mk0))), rfl, bel.frame _, fun h => by cases h⟩

theorem vectorRefuses_holds : Rows.VectorRefusesSaid :=
  OpenClaim.holds_of_wide 6 Tryz.f6 rfl rfl rfl rfl rfl rfl rfl ⟨rfl, rfl, rfl, rfl, rfl⟩ rfl rfl rfl rfl rfl (by kernel_rfl) Tryz.func6 (by kernel_rfl)
    (of_decide_eq_true (by kernel_rfl)) (by unfold Func.isWrapper; first | (rw [if_pos (by decide +kernel)]; kernel_rfl) | (rw [if_neg (by decide +kernel)]; exact ⟨rfl, rfl⟩))
    (fun os started H enc _ => vectorRefuses_lifted os started H enc)
#print axioms vectorRefuses_holds

end Go.Proofs.YtennjcjjegbhgaaGreat
