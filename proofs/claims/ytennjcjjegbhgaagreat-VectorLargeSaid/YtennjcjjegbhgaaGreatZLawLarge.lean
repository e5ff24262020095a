/-
  Proved: the statement VectorLargeSaid: for every input the law quadformlaw09.VectorLarge returns true, and each argument reads afterwards as it read before. No condition.
-/
import Derived.Test.YtennjcjjegbhgaaGreatP16
set_option linter.all false
namespace Go.Proofs.YtennjcjjegbhgaaGreat
open Go.RowKit
def lgF (y : List Int) (s : Nat) : Nat → Int := fun i => if i < y.length then Int.fdiv (y.getD i 0) (2 ^ s) else 0
def lgP (y : List Int) (s i : Nat) : Nat → Int := fun j => if j < i then lgF y s j else 0
theorem lgP_step (y : List Int) (s i j : Nat) : (if j = i then lgF y s i else lgP y s i j) = lgP y s (i + 1) j := by
  unfold lgP
  by_cases h : j = i
  · subst h; simp
  · have : j < i + 1 ↔ j < i := by omega
    simp [h, this]
theorem lgP_skip (y : List Int) (s i j : Nat) (h : ¬ i < y.length) : lgP y s i j = lgP y s (i + 1) j := by
  unfold lgP
  by_cases e : j = i
  · subst e; simp [lgF, h]
  · have : j < i + 1 ↔ j < i := by omega
    simp [this]
theorem lg_row0 (n : Nat) (y : List Int) (s : Nat) : List.replicate n [AV.p (.raw (.int .i64 0))] = lc fI (rowF n (lgP y s 0)) := by
  apply List.ext_getElem?
  intro j
  rw [List.getElem?_replicate, lc_get]
  by_cases hj : j < n
  · rw [if_pos hj, rowF_get _ hj]; simp [lgP, fI]
  · rw [if_neg hj, List.getElem?_eq_none (by rw [rowF_len]; omega)]; rfl
set_option maxRecDepth 100000 in
set_option maxHeartbeats 16000000 in
theorem lawLarge_C (dim kind : Nat) (L B y w : List Int) (bits : Nat) (hL : I8 L) (hdim : dim ≤ 255) (hkind : kind ≤ 255) (hbits : bits ≤ 255) (hy : ∀ z ∈ y, I64 z) (hw : ∀ z ∈ w, I64 z) :
    CallC Tryz.prog 5 [tL dim kind L B, sl1 y, sl1 w, .raw (.int .u8 (bits : Int))] ⟨[], .raw (.bool true)⟩ := by
  obtain ⟨n, hn⟩ : ∃ n, n = 1 + dim % 4 := ⟨_, rfl⟩
  obtain ⟨h, hr, cF⟩ := Form_C dim kind L B 4 n hL hdim hkind (by omega) (by omega) hn
  rw [show ((4 : Nat) : Int) = 4 from rfl] at cF
  have hM := MI_red (by omega) (by omega) hr
  have hml := mat_len n n h
  generalize mat n n h = M at *
  have c5 := awake_C
  have e0 : Int.tmod (bits : Int) 64 = ((bits % 64 : Nat) : Int) := (Int.ofNat_tmod bits 64).symm
  have hs64 := Nat.mod_lt bits (show 0 < 64 by omega)
  generalize bits % 64 = s at *
  refine callC_of Tryz.func5 rfl (by kernel_rfl) ?_; rw [Tryz.ntmps5]
  (refine WpA_sreg [] [] (by simp) fun K hK => ?_; simp (disch := omega) only [kc, prep1, tL, sl1, Nat.reduceAdd, List.replicate, opS_box, newS, effA, cellsOf, isPure, ifT, ofConst, Value.oneCell']; (with_reducible refine hK _ ?_))
  (refine WpA_sreg [⟨1, _, _, _, cF⟩] [] (by simp) fun K hK => ?_; simp (disch := omega) only [kc, tL, slI, CItem.a, prep1, Nat.reduceAdd, effR, updH, packT, ty_sz26, ty_agg26, Nat.le_refl, opS_call, newS, effA, List.find?_cons, evAll, ofConst, Value.oneCell', norm, CallRes.plain, rawTV, rawAV, normOk, isPure, noRefTV, noRefAV, renTV, renAV]; (with_reducible refine hK _ ?_))
  (refine WpA_sdraw mixedA [] [] (by kernel_rfl) (by simp) fun K hK => ?_; simp (disch := omega) only [kc, prep1, Nat.reduceAdd, opS_len, effR, ty_slice22, ls_len, hml, opS_makeSlice, newS, effA, ty_slice23, ty_zero2, ty_sz2, ty_by2, Int.natCast_nonneg, Value.oneCell', and_true, ifT, updH, Nat.reduceEqDiff, ifF]; (with_reducible refine hK _ ?_))
  (refine WpA_seq (WpA_sreg [] [] (by simp) fun K hK => ?_); simp (disch := omega) only [kc, prep1, Nat.reduceAdd, opS_len, effR, ty_slice22, ls_len, hml, ofConst, Value.oneCell']; (with_reducible refine hK _ ?_))
  refine WpA_forb (G := FiG n) (fun g => ⟨[jk, sl1 y, sl1 w, .raw (.int .u8 (bits : Int)), jk, jk, jk, jk, jk, slI M, .one (.sl 29 0 0 n), .one (.sl 32 0 0 n), jk, jk, jk, jk, jk, jk, jk, jk, jk, jk, jk, jk, jk, jk, jk, jk, jk, jk, jk, jk, jk, jk, .raw (.int .i64 (n : Int)), .raw (.int .i64 (g.i : Int)), jk, jk, jk, jk, jk, jk, jk, jk, jk, jk, jk, jk, jk, jk, jk, jk, jk, jk, jk, jk, jk, jk, jk, jk, jk, jk, jk, jk, jk, jk, jk, jk, jk, jk, jk, jk, jk, jk, jk, jk, jk, jk, jk, jk, jk, jk, jk, jk, jk, jk, jk, jk, jk, jk, jk, jk, jk, jk, jk, jk, jk, jk, jk, jk, jk, jk, jk, jk, jk, jk, jk, jk, jk, jk, jk, jk, jk, jk, jk, jk, jk, jk, jk, jk, jk, jk, jk, jk, jk, jk, jk, jk, jk, jk, jk, jk, jk, jk, jk, jk, jk, jk], Hm [(29, [⟨2, 1, lc fI (rowF n (lgP y s g.i))⟩]), (32, [⟨2, 1, lc fI (rowF n (lgP w s g.i))⟩])]⟩) (fun g => n - g.i) ⟨0, by omega⟩ ?_ ?_
  · refine Weak_sub ⟨?_, ?_, trivial⟩ ?_
    · show [_] = [_]
      rw [← lg_row0 n y s]
    · show [_] = [_]
      rw [← lg_row0 n w s]
    · simp [wkL, okTV, okAV]
  · rintro ⟨i, hi⟩
    simp only
    by_cases hm : i < n
    · have hmin : min s IntKind.i64.bits = s := Nat.min_eq_left (by show s ≤ 64; omega)
      have ga := rowF_get (lgP y s i) hm
      have gb := rowF_get (lgP w s i) hm
      (refine WpA_sreg [] [] (by simp) fun K hK => ?_; simp (disch := omega) only [kc, prep1, sl1, slI, Hm, effM, evBin, decT]; (with_reducible refine hK _ ?_))
      refine WpA_seq (WpA_cond rfl (fun _ => WpA_skip ?_) (fun h => by simp at h <;> omega))
      refine WpA_seq (WpA_block ?_)
      (refine WpA_sreg [] [] (by simp) fun K hK => ?_; simp (disch := omega) only [kc, prep1]; (with_reducible refine hK _ ?_))
      refine WpA_seq (WpA_cut (S := ⟨[jk, sl1 y, sl1 w, .raw (.int .u8 (bits : Int)), jk, jk, jk, jk, jk, slI M, .one (.sl 29 0 0 n), .one (.sl 32 0 0 n), .raw (.int .i64 (i : Int)), jk, jk, jk, jk, jk, jk, jk, jk, jk, jk, jk, jk, jk, jk, jk, jk, jk, jk, jk, jk, jk, .raw (.int .i64 (n : Int)), .raw (.int .i64 (i : Int)), jk, jk, jk, jk, jk, jk, jk, jk, jk, jk, jk, jk, jk, jk, jk, jk, jk, jk, jk, jk, jk, jk, jk, jk, jk, jk, jk, jk, jk, jk, jk, jk, jk, jk, jk, jk, jk, jk, jk, jk, jk, jk, jk, jk, jk, jk, jk, jk, jk, jk, jk, jk, jk, jk, jk, jk, jk, jk, jk, jk, jk, jk, jk, jk, jk, jk, jk, jk, jk, jk, jk, jk, jk, jk, jk, jk, jk, jk, jk, jk, jk, jk, jk, jk, jk, jk, jk, jk, jk, jk, jk, jk, jk, jk, jk, jk, jk, jk, jk, jk, jk, jk], Hm [(29, [⟨2, 1, lc fI (rowF n (lgP y s (i + 1)))⟩]), (32, [⟨2, 1, lc fI (rowF n (lgP w s i))⟩])]⟩) ?_ ?_)
      · by_cases hl : i < y.length
        · obtain ⟨z, hz⟩ := getElem?_of_lt hl
          have e1 : Int.fdiv z (2 ^ s) = lgF y s i := by unfold lgF; rw [if_pos hl, List.getD_eq_getElem?_getD, hz]; rfl
          (refine WpA_sreg [] [] (by simp) fun K hK => ?_; simp (disch := omega) only [kc, prep1, Nat.reduceAdd, opS_len, effR, ty_slice23, ls_len, effM, evBin, decT]; (with_reducible refine hK _ ?_))
          refine WpA_cond rfl (fun _ => ?_) (fun h => by simp at h <;> omega)
          ((refine WpA_lreg [] [] (by simp) fun K hK => ?_); simp (disch := omega) only [kc, prep1, Nat.reduceAdd, opS_indexAddr, effR, natOf_pos, ty_slice23, ls_get, hz, fI, ty_sz2, packT, ty_agg2, effM, ofConst, Value.oneCell', evBin, e0, ifT, Int.natCast_nonneg, hmin, e1, Nat.reduceEqDiff, opS_store, wrS, effD, lc_get, ga, cellsOf, Nat.le_refl, isPure, putCells, lcI_set, rowF_set, killTV, killAV]; (with_reducible refine hK _ ?_))
          refine Weak_sub ⟨?_, rfl, trivial⟩ ?_
          · show [_] = [_]
            rw [rowF_congr fun j _ => lgP_step y s i j]
          · simp [wkL, okTV, okAV]
        · (refine WpA_sreg [] [] (by simp) fun K hK => ?_; simp (disch := omega) only [kc, prep1, Nat.reduceAdd, opS_len, effR, ty_slice23, ls_len, effM, evBin, decF]; (with_reducible refine hK _ ?_))
          refine WpA_cond rfl (fun h => by simp at h <;> omega) (fun _ => WpA_skip ?_)
          show Weak _ _
          refine Weak_sub ⟨?_, rfl, trivial⟩ ?_
          · show [_] = [_]
            rw [rowF_congr fun j _ => lgP_skip y s i j hl]
          · simp [wkL, okTV, okAV]
      · by_cases hl : i < w.length
        · obtain ⟨z, hz⟩ := getElem?_of_lt hl
          have e1 : Int.fdiv z (2 ^ s) = lgF w s i := by unfold lgF; rw [if_pos hl, List.getD_eq_getElem?_getD, hz]; rfl
          (refine WpA_sreg [] [] (by simp) fun K hK => ?_; simp (disch := omega) only [kc, prep1, Nat.reduceAdd, sl1, slI, Hm, opS_len, effR, ty_slice23, ls_len, effM, evBin, decT]; (with_reducible refine hK _ ?_))
          refine WpA_cond rfl (fun _ => ?_) (fun h => by simp at h <;> omega)
          ((refine WpA_lreg [] [] (by simp) fun K hK => ?_); simp (disch := omega) only [kc, prep1, Nat.reduceAdd, opS_indexAddr, effR, natOf_pos, ty_slice23, ls_get, hz, fI, ty_sz2, packT, ty_agg2, effM, ofConst, Value.oneCell', evBin, e0, ifT, Int.natCast_nonneg, hmin, e1, Nat.reduceEqDiff, opS_store, wrS, effD, lc_get, gb, cellsOf, Nat.le_refl, isPure, putCells, lcI_set, rowF_set, killTV, killAV]; (with_reducible refine hK _ ?_))
          show WpA _ _ _ _
          ((refine WpA_lreg [] [] (by simp) fun K hK => ?_); simp (disch := omega) only [kc, prep1, effM, ofConst, Value.oneCell', evBin, wrapI]; (with_reducible refine hK _ ?_))
          refine ⟨⟨i + 1, by omega⟩, by simp only; omega, Weak_sub ⟨rfl, ?_, trivial⟩ ?_⟩
          · show [_] = [_]
            rw [rowF_congr fun j _ => lgP_step w s i j]
          · simp [wkL, okTV, okAV]
        · (refine WpA_sreg [] [] (by simp) fun K hK => ?_; simp (disch := omega) only [kc, prep1, Nat.reduceAdd, sl1, slI, Hm, opS_len, effR, ty_slice23, ls_len, effM, evBin, decF]; (with_reducible refine hK _ ?_))
          refine WpA_cond rfl (fun h => by simp at h <;> omega) (fun _ => WpA_skip ?_)
          show WpA _ _ _ _
          ((refine WpA_lreg [] [] (by simp) fun K hK => ?_); simp (disch := omega) only [kc, prep1, effM, ofConst, Value.oneCell', evBin, wrapI]; (with_reducible refine hK _ ?_))
          refine ⟨⟨i + 1, by omega⟩, by simp only; omega, Weak_sub ⟨rfl, ?_, trivial⟩ ?_⟩
          · show [_] = [_]
            rw [rowF_congr fun j _ => lgP_skip w s i j hl]
          · simp [wkL, okTV, okAV]
    · have hin : i = n := by omega
      subst hin
      (refine WpA_sreg [] [] (by simp) fun K hK => ?_; simp (disch := omega) only [kc, prep1, sl1, slI, Hm, effM, evBin, decF]; (with_reducible refine hK _ ?_))
      refine WpA_seq (WpA_cond rfl (fun h => by simp at h <;> omega) (fun _ => WpA_exit ?_))
      show WpA _ _ _ _
      refine WpA.weak ((Weak_fz 29 (fzOk_one rfl)).trans ((Weak_fz 32 (fzOk_one rfl)).trans (Weak_sub (tm := [jk, sl1 y, sl1 w, jk, jk, jk, jk, jk, jk, slI M, sl1 (rowF i (lgP y s i)), sl1 (rowF i (lgP w s i)), jk, jk, jk, jk, jk, jk, jk, jk, jk, jk, jk, jk, jk, jk, jk, jk, jk, jk, jk, jk, jk, jk, jk, jk, jk, jk, jk, jk, jk, jk, jk, jk, jk, jk, jk, jk, jk, jk, jk, jk, jk, jk, jk, jk, jk, jk, jk, jk, jk, jk, jk, jk, jk, jk, jk, jk, jk, jk, jk, jk, jk, jk, jk, jk, jk, jk, jk, jk, jk, jk, jk, jk, jk, jk, jk, jk, jk, jk, jk, jk, jk, jk, jk, jk, jk, jk, jk, jk, jk, jk, jk, jk, jk, jk, jk, jk, jk, jk, jk, jk, jk, jk, jk, jk, jk, jk, jk, jk, jk, jk, jk, jk, jk, jk, jk, jk, jk, jk, jk, jk, jk, jk, jk, jk, jk, jk]) (l := []) trivial (by simp [wkL, okTV, okAV, fzTV, fzAV, updH, Hm, lc_take, lc_cellF, List.take_of_length_le, rowF_len])))) ?_
      generalize rowF i (lgP y s i) = a at *
      generalize rowF i (lgP w s i) = b at *
      have c1 := pNorm_C M a
      have c2 := Norm_C M a hM
      have c3 := pInner_C M a b
      have c4 := Inner_C M a b hM
      have c6 := pInner_C M y w
      have c7 := Inner_C M y w hM
      obtain ⟨v1, b1, e1, _⟩ := innT_cases M a a
      obtain ⟨v2, b2, e2, _⟩ := innT_cases M a b
      obtain ⟨v3, b3, e3, _⟩ := innT_cases M y w
      rw [e1] at c1 c2
      rw [e2] at c3 c4
      rw [e3] at c6 c7
      (refine WpA_sreg [⟨2, _, _, _, c1⟩] [] (by simp) fun K hK => ?_; simp (disch := omega) only [kc, slI, sl1, tvI, CItem.a, prep1, Nat.reduceAdd, Hm, opS_call, newS, effA, List.find?_cons, evAll, norm, CallRes.plain, rawTV, rawAV, normOk, noRefTV, noRefAV, renTV, renAV, opS_extract, effM]; (with_reducible refine hK _ ?_))
      (refine WpA_sreg [⟨2, _, _, _, c2⟩] [] (by simp) fun K hK => ?_; simp (disch := omega) only [kc, slI, sl1, tvI, CItem.a, prep1, Nat.reduceAdd, opS_call, newS, effA, List.find?_cons, evAll, norm, CallRes.plain, rawTV, rawAV, normOk, noRefTV, noRefAV, renTV, renAV, opS_extract, effM]; (with_reducible refine hK _ ?_))
      (refine WpA_sreg [⟨3, _, _, _, c3⟩] [] (by simp) fun K hK => ?_; simp (disch := omega) only [kc, slI, sl1, tvI, CItem.a, prep1, Nat.reduceAdd, opS_call, newS, effA, List.find?_cons, evAll, norm, CallRes.plain, rawTV, rawAV, normOk, noRefTV, noRefAV, renTV, renAV, opS_extract, effM]; (with_reducible refine hK _ ?_))
      (refine WpA_sreg [⟨3, _, _, _, c4⟩] [] (by simp) fun K hK => ?_; simp (disch := omega) only [kc, slI, sl1, tvI, CItem.a, prep1, Nat.reduceAdd, opS_call, newS, effA, List.find?_cons, evAll, norm, CallRes.plain, rawTV, rawAV, normOk, noRefTV, noRefAV, renTV, renAV, opS_extract, effM]; (with_reducible refine hK _ ?_))
      (refine WpA_sreg [⟨3, _, _, _, c6⟩] [] (by simp) fun K hK => ?_; simp (disch := omega) only [kc, slI, sl1, tvI, CItem.a, prep1, Nat.reduceAdd, opS_call, newS, effA, List.find?_cons, evAll, norm, CallRes.plain, rawTV, rawAV, normOk, noRefTV, noRefAV, renTV, renAV, opS_extract, effM]; (with_reducible refine hK _ ?_))
      (refine WpA_sreg [⟨3, _, _, _, c7⟩] [] (by simp) fun K hK => ?_; simp (disch := omega) only [kc, slI, sl1, tvI, CItem.a, prep1, Nat.reduceAdd, opS_call, newS, effA, List.find?_cons, evAll, norm, CallRes.plain, rawTV, rawAV, normOk, noRefTV, noRefAV, renTV, renAV, opS_extract, effM]; (with_reducible refine hK _ ?_))
      (refine WpA_sreg [⟨29, _, _, _, c5⟩] [] (by simp) fun K hK => ?_; simp (disch := omega) only [kc, CItem.a, prep1, Nat.reduceAdd, effM, evBin, decT, stS_guard, ty_bool4, ifT, opS_pick, opS_call, newS, effA, List.find?_cons, evAll, CallRes.plain, rawTV, rawAV, noRefTV, noRefAV, renTV, renAV]; (with_reducible refine hK _ ?_))
      (refine WpA_ret ⟨.inr rfl, ret_now rfl ?_ rfl⟩; simp (disch := omega) only [resA, Tryz.results5, resOne, List.getElem?_cons_succ, List.getElem?_cons_zero])
end Go.Proofs.YtennjcjjegbhgaaGreat
namespace Go.Proofs.YtennjcjjegbhgaaGreat
open Go.ChangeShapes Go.WideShapes Go.ChangeAt Go.RowKit
set_option maxRecDepth 100000 in
theorem vectorLarge_lifted (os : Os) (started : os.Started) (H : Type) (enc : TypeId × Value → H) :
    ReturnsInHanded {} Tryz.checked os 5 .any (Rows.vectorLargeSpec.pre6 enc Tryz.prog Tryz.f5 Rows.vectorLargeRow.domain false) (Rows.vectorLargeSpec.post enc Tryz.prog Tryz.f5 false true false false) := by
  refine returnsInHanded_of_change_sized (C := Tryz.checked) Tryz.ownKnob_ started (by kernel_rfl) Tryz.func5
    (ChangeSpec.witness6 (enc := enc) (C := Tryz.checked) false ⟨#[], #[.agg #[.int .u8 0, .int .u8 0, .slice none 0 0, .slice none 0 0], .slice none 0 0, .slice none 0 0, .int .u8 0], []⟩ 8 (by kernel_rfl) (by kernel_rfl) (by kernel_rfl) (by kernel_rfl)) ?_
  intro W base args ds gs before hval0 hW hcnd hsz0 _
  have hval : ∀ (j : Nat) t v, Tryz.f5.params[j]? = some t → args[j]? = some v → Value.okWide Tryz.prog W .any base t v := hval0
  have hsz : (DataW.weightsEach Tryz.prog (Tryz.f5.params.toList ++ Rows.vectorLargeSpec.plain.varTypes Tryz.prog) (ds ++ gs)).all (· ≤ reachBytes) = true := hsz0
  have hW' := hW
  obtain ⟨p, q, hA0, hV, rfl, hfz, hnd⟩ := hW
  have hA : DataW.TrodAll enc Tryz.prog W 0 (fun _ => true) true Tryz.f5.params.toList args.toList ds p := hA0
  rw [Tryz.params5] at hA hval hsz
  obtain ⟨v0, vs0, d0, ds0, p0, q0, hargs, rfl, rfl, h0, r0⟩ := trodAll_cons hA
  obtain ⟨v1, vs1, d1, ds1, p1, q1, rfl, rfl, rfl, h1, r1⟩ := trodAll_cons r0
  obtain ⟨v2, vs2, d2, ds2, p2, q2, rfl, rfl, rfl, h2, r2⟩ := trodAll_cons r1
  obtain ⟨v3, vs3, d3, ds3, p3, q3, rfl, rfl, rfl, h3, r3⟩ := trodAll_cons r2
  obtain ⟨rfl, rfl, rfl⟩ := trodAll_nil r3
  obtain rfl : args = #[v0, v1, v2, v3] := by cases args; simp_all
  obtain ⟨rfl, rfl⟩ := trodVars_none hV
  have k0 := h0
  have lt0 : ∀ x ∈ p0, x.block < W.heap.size := by obtain ⟨m, hm⟩ := k0; exact DataW.trod_lt m _ _ _ hm
  obtain ⟨u00, u01, u02, u03, y00, y01, y02, y03, n0, rfl, rfl, rfl, q00, q01, q02, q03⟩ := Go.Joins.open_agg4 Tryz.underlying26 (by kernel_rfl) (by kernel_rfl) (hval 0 26 v0 rfl rfl) h0
  obtain ⟨dim0, rfl, hd0⟩ := open_cellU Tryz.underlying5 q00
  obtain ⟨kind0, rfl, hk0⟩ := open_cellU Tryz.underlying5 q01
  obtain ⟨L0, rL0, hL0⟩ := open_cell8 Tryz.underlying24 Tryz.underlying47 (by kernel_rfl) q02
  obtain ⟨B0, rB0, hB0⟩ := open_cell8 Tryz.underlying24 Tryz.underlying47 (by kernel_rfl) q03
  obtain ⟨a1, len1, cap1, rfl⟩ := okWide_slice Tryz.underlying23 (hval 1 23 v1 rfl rfl)
  have k1 := h1
  have lt1 : ∀ x ∈ p1, x.block < W.heap.size := by obtain ⟨m, hm⟩ := k1; exact DataW.trod_lt m _ _ _ hm
  obtain ⟨z1, rfl, g11, g12, g13, g14, g15⟩ := open_rdI Tryz.underlying23 Tryz.underlying2 (by kernel_rfl) h1
  obtain ⟨a2, len2, cap2, rfl⟩ := okWide_slice Tryz.underlying23 (hval 2 23 v2 rfl rfl)
  have k2 := h2
  have lt2 : ∀ x ∈ p2, x.block < W.heap.size := by obtain ⟨m, hm⟩ := k2; exact DataW.trod_lt m _ _ _ hm
  obtain ⟨z2, rfl, g21, g22, g23, g24, g25⟩ := open_rdI Tryz.underlying23 Tryz.underlying2 (by kernel_rfl) h2
  obtain ⟨a3, rfl, rfl, rfl, w3⟩ := open_int Tryz.underlying5 (hval 3 5 v3 rfl rfl) h3
  clear hA0 hval0 hsz0
  obtain ⟨bn, hbn⟩ : ∃ bn : Nat, a3 = (bn : Int) := ⟨a3.toNat, by have := wf_u8_bd w3; omega⟩
  have hw3 := wf_u8_bd w3
  subst hbn
  refine ((lawLarge_C dim0 kind0 L0 B0 z1 z2 bn hL0 hd0 hk0 (by omega) (fun z hz => wf_i64_bd (g14 z hz)) (fun z hz => wf_i64_bd (g24 z hz))).law (vs := #[.agg #[.int .u8 (dim0 : Int), .int .u8 (kind0 : Int), u02, u03], .slice a1 z1.length cap1, .slice a2 z2.length cap2, .int .u8 ((bn : Nat) : Int)]) rfl (argsT (vs := [.agg #[.int .u8 (dim0 : Int), .int .u8 (kind0 : Int), u02, u03], .slice a1 z1.length cap1, .slice a2 z2.length cap2, .int .u8 ((bn : Nat) : Int)]) rfl (fun j t v ht hv => by
    match j, ht, hv with
    | 0, ht, hv => simp at ht hv; subst ht; subst hv; exact rel_L rL0 rB0
    | 1, ht, hv => simp at ht hv; subst ht; subst hv; exact rdI_rep g11 (by unfold maxLen at g12; omega) g13
    | 2, ht, hv => simp at ht hv; subst ht; subst hv; exact rdI_rep g21 (by unfold maxLen at g22; omega) g23
    | 3, ht, hv => simp at ht hv; subst ht; subst hv; exact Rep.raw _ rfl
    | j + 4, ht, hv => simp at ht))).mono fun e W' ⟨he, bel0⟩ => ?_
  have bel : Below W.heap.size W W' := bel0
  subst he
  exact ⟨_, rfl, _, _, _, [], _, [], hW', trodAll_mk1 (shut_bool Tryz.underlying4 _), (trodAll_cons_mk (Below.trod Tryz.laidOut_ (by kernel_rfl) (of_decide_eq_true (by kernel_rfl)) k0 bel lt0) (trodAll_cons_mk (Below.trod Tryz.laidOut_ (by kernel_rfl) (of_decide_eq_true (by kernel_rfl)) k1 bel lt1) (trodAll_cons_mk (Below.trod Tryz.laidOut_ (by kernel_rfl) (of_decide_eq_true (by kernel_rfl)) k2 bel lt2) (trodAll_cons_mk (shut_int Tryz.underlying5 w3) trodAll_mk0)))), rfl, bel.frame _, fun h => by cases h⟩
theorem vectorLarge_holds : Rows.VectorLargeSaid :=
  OpenClaim.holds_of_wide 5 Tryz.f5 rfl rfl rfl rfl rfl rfl rfl ⟨rfl, rfl, rfl, rfl, rfl⟩ rfl rfl rfl rfl rfl (by kernel_rfl) Tryz.func5 (by kernel_rfl)
    (of_decide_eq_true (by kernel_rfl)) (by unfold Func.isWrapper; first | (rw [if_pos (by decide +kernel)]; kernel_rfl) | (rw [if_neg (by decide +kernel)]; exact ⟨rfl, rfl⟩))
    (fun os started H enc _ => vectorLarge_lifted os started H enc)
#print axioms vectorLarge_holds
end Go.Proofs.YtennjcjjegbhgaaGreat
