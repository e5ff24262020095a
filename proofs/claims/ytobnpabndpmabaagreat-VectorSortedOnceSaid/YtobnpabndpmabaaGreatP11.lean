/-
  Part 12 of a proof (walks and plain facts).
-/
import Derived.Test.YtobnpabndpmabaaGreatP10
set_option linter.all false
namespace Go.Proofs.YtobnpabndpmabaaGreat
open Go.RowKit
abbrev slZ (l : List Int) : TV := .one (.p (.sl (ls fZ l)))
theorem sel_lam (i j : Nat) (f : Nat → Nat → Int) : ((List.range j ++ [i]).map fun r => (List.range (j + 1)).map (f r)) = mat (j + 1) (j + 1) (lamF f i j) := by
  rw [mat, List.range_succ, List.map_append, List.map_append]
  congr 1
  · refine List.map_congr_left fun r hr => ?_
    have := List.mem_range.1 hr
    rw [← List.range_succ]
    exact rowF_congr (m := j + 1) fun c _ => by unfold lamF; rw [if_pos this]
  · simp only [List.map_cons, List.map_nil]
    rw [← List.range_succ]
    congr 1
    exact rowF_congr (m := j + 1) fun c _ => by unfold lamF; rw [if_neg (by omega)]
theorem lamF_sz {n i j : Nat} {f : Nat → Nat → Int} (hi : i < n) (hj : j < n) (hf : ∀ i j, i < n → j < n → Sz (f i j) 1024) : ∀ r c, r < j + 1 → c < j + 1 → Sz (lamF f i j r c) 1024 := fun r c hr hc => by
  unfold lamF
  split
  · exact hf r c (by omega) (by omega)
  · exact hf i c hi (by omega)
theorem lam_sz {n i j : Nat} {f : Nat → Nat → Int} (hn : n ≤ 16) (hi : i < n) (hj : j < n) (hf : ∀ i j, i < n → j < n → Sz (f i j) 1024) : Sz (lam f i j) 67174400 :=
  detF_sz (by omega) (lamF_sz hi hj hf)
theorem dd_sz {n k : Nat} {f : Nat → Nat → Int} (hn : n ≤ 16) (hk : k ≤ n) (hf : ∀ i j, i < n → j < n → Sz (f i j) 1024) : Sz (dd f k) 67174400 := by
  unfold dd
  split
  · exact sz_one (by omega)
  · exact detF_sz (by omega) fun i j hi hj => hf i j (by omega) (by omega)
set_option maxRecDepth 100000 in
set_option maxHeartbeats 8000000 in
theorem Lambda_C (n : Nat) (f : Nat → Nat → Int) (i j : Nat) (hn : n ≤ 16) (hi : i < n) (hj : j < n) (hf : ∀ i j, i < n → j < n → Sz (f i j) 1024) :
    CallC Tryz.prog 109 [slM (mat n n f), .raw (.int .i64 (i : Int)), .raw (.int .i64 (j : Int))] ⟨[], tZ (lam f i j)⟩ := by
  have c2 := Select_C n n f (List.range j ++ [i]) (List.range (j + 1)) hn hn (fun x hx => by
    rcases List.mem_append.1 hx with h | h
    · have := List.mem_range.1 h; omega
    · have : x = i := by simpa using h
      omega) (fun x hx => by have := List.mem_range.1 hx; omega) (by simp; omega) (by simp; omega)
  rw [sel_lam] at c2
  have c3 := Determinant_C (j + 1) (lamF f i j) (by omega) (by omega) (lamF_sz hi hj hf)
  refine callC_of Tryz.func109 rfl (by kernel_rfl) ?_; rw [Tryz.ntmps109]
  (refine WpA_sreg [] [] (by simp) fun K hK => ?_; simp (disch := omega) only [kc, prep1, slM, Nat.reduceAdd, List.replicate, opS_alloc, newS, effA, ty_zero79, Value.oneCell', ifT]; (with_reducible refine hK _ ?_))
  (refine WpA_sreg [] [] (by simp) fun K hK => ?_; simp (disch := omega) only [kc, prep1, ofConst, Value.oneCell']; (with_reducible refine hK _ ?_))
  (refine WpA_seq (WpA_sreg [] [] (by simp) fun K hK => ?_); simp (disch := omega) only [kc, prep1, ofConst, Value.oneCell']; (with_reducible refine hK _ ?_))
  refine WpA_forb (G := FiG j) (fun g => ⟨[slM (mat n n f), .raw (.int .i64 (i : Int)), .raw (.int .i64 (j : Int)), jk, jk, jk, .one (.ptr 6 0 0 0), .one (.sl 18 0 0 g.i), .one (.sl 22 0 0 g.i), .raw (.int .i64 (g.i : Int)), jk, jk, jk, jk, jk, jk, jk, jk, jk, jk, jk, jk, jk, jk, jk, jk, jk, jk, jk, jk, jk, jk, jk, jk], Hm [(6, bx0), (18, [⟨3, 1, lc fN (List.range g.i)⟩]), (22, [⟨3, 1, lc fN (List.range g.i)⟩])]⟩) (fun g => j - g.i) ⟨0, by omega⟩ ?_ ?_
  · refine (Weak_nil (k := 7) (d := 18) 3 1 (by omega) rfl rfl).trans ((Weak_nil (k := 8) (d := 22) 3 1 (by omega) rfl rfl).trans (Weak_sub ⟨rfl, rfl, rfl, trivial⟩ ?_))
    simp [wkL, okTV, okAV]
  · rintro ⟨k, hk⟩
    simp only
    by_cases hm : k < j
    · (refine WpA_seq (WpA_sreg [] [] (by simp) fun K hK => ?_); simp (disch := omega) only [kc, prep1, Nat.reduceAdd, slM, Hm, effM, evBin, decT]; (with_reducible refine hK _ ?_))
      refine WpA_cond rfl (fun _ => WpA_skip ?_) (fun h => by simp at h <;> omega)
      refine WpA_seq (WpA_block ?_)
      (refine WpA_sreg [] [] (by simp) fun K hK => ?_; simp (disch := omega) only [kc, prep1, Nat.reduceAdd, opS_buildSlice, newS, effA, ty_slice138, ty_zero3, ty_sz3, litA, cellsOf, isPure, Nat.reduceMul, Nat.reduceLeDiff, List.contains_nil, unP, ifT, opS_append, appS, effD, newsOf, Nat.reduceEqDiff, ifF, ty_by3, lc_allp, lc_len, List.length_range, allcons, allnil, and_true, killO, lc_kill, lcN_snoc, wrS, killTV, killAV, Nat.reduceBEq]; (with_reducible refine hK _ ?_))
      ((refine WpA_lreg [] [] (by simp) fun K hK => ?_); simp (disch := omega) only [kc, prep1, Nat.reduceAdd, opS_buildSlice, newS, effA, ty_slice138, ty_zero3, ty_sz3, litA, cellsOf, isPure, Nat.reduceMul, Nat.reduceLeDiff, List.contains_nil, unP, ifT, opS_append, appS, effD, newsOf, updH, Nat.reduceEqDiff, ifF, ty_by3, lc_allp, lc_len, List.length_range, allcons, allnil, and_true, killO, lc_kill, lcN_snoc, wrS, killTV, killAV, Nat.reduceBEq]; (with_reducible refine hK _ ?_))
      show WpA _ _ _ _
      ((refine WpA_lreg [] [] (by simp) fun K hK => ?_); simp (disch := omega) only [kc, prep1, Nat.reduceAdd, effM, ofConst, Value.oneCell', evBin, wrapI]; (with_reducible refine hK _ ?_))
      refine ⟨⟨k + 1, by omega⟩, by simp only; omega, Weak_sub ⟨rfl, ?_, ?_, trivial⟩ ?_⟩
      · rw [List.range_succ]; rfl
      · rw [List.range_succ]; rfl
      · simp [wkL, okTV, okAV]
    · have hkj : k = j := by omega
      subst hkj
      (refine WpA_seq (WpA_sreg [] [] (by simp) fun K hK => ?_); simp (disch := omega) only [kc, prep1, Nat.reduceAdd, slM, Hm, effM, evBin, decF]; (with_reducible refine hK _ ?_))
      refine WpA_cond rfl (fun h => by simp at h <;> omega) (fun _ => WpA_exit ?_)
      show WpA _ _ _ _
      (refine WpA_wsreg 9 [⟨9, _, _, _, c2⟩, ⟨10, _, _, _, c3⟩] [] (by simp) (by decide) fun K hK => ?_; simp (disch := omega) only [kc, slM, slN, tZ, CItem.a, prep1, Nat.reduceAdd, opS_buildSlice, newS, effA, ty_slice138, ty_zero3, ty_sz3, litA, cellsOf, isPure, Nat.reduceMul, Nat.reduceLeDiff, List.contains_nil, unP, ifT, opS_append, appS, effD, newsOf, Nat.reduceEqDiff, ifF, ty_by3, lc_allp, lc_len, List.length_range, allcons, allnil, and_true, killO, lc_kill, lcN_snoc, wrS, killTV, killAV, Nat.reduceBEq, updH]; (with_reducible refine hK _ ?_))
      refine ⟨⟨[jk, jk, jk, jk, jk, jk, .one (.ptr 6 0 0 0), jk, jk, jk, jk, jk, jk, jk, jk, jk, jk, jk, jk, jk, jk, jk, jk, slM (mat n n f), jk, jk, jk, slN (List.range k ++ [i]), jk, jk, jk, slN (List.range (k + 1)), jk, jk], Hm [(6, bx0)]⟩, (Weak_fz 18 (fzOk_one rfl)).trans ((Weak_fz 22 (fzOk_one rfl)).trans (Weak_sub ⟨rfl, trivial⟩ ?_)), by simp, ?_⟩
      · simp [wkL, okTV, okAV, fzTV, fzAV, updH, Hm, lc_take, lc_cellF, List.range_succ, List.take_of_length_le]
      · (intro K hK; simp (disch := omega) only [kc, slM, slN, tZ, CItem.a, prep1, Nat.reduceAdd, Hm, opS_call, newS, effA, List.find?_cons, evAll, norm, CallRes.plain, rawTV, rawAV, normOk, noRefTV, noRefAV, renTV, renAV, Nat.reduceBEq, opS_store, wrS, effD, ty_sz79, cellsOf, Nat.le_refl, isPure, ifT, putCells, killTV, killAV]; (with_reducible refine hK _ ?_))
        rw [← lam]
        (refine WpA_ret ⟨.inr rfl, ret_now rfl ?_ rfl⟩; simp (disch := omega) only [kc, resA, Tryz.results109, resOne, updH, ifF, packT, ty_sz79, ty_agg79, Nat.reduceAdd, Nat.le_refl, tZ])
set_option maxRecDepth 100000 in
set_option maxHeartbeats 8000000 in
theorem minor_C (n : Nat) (f : Nat → Nat → Int) (k : Nat) (hn : n ≤ 16) (hk : k ≤ n) :
    CallC Tryz.prog 110 [slZ (ldF n f), .raw (.int .i64 (k : Int))] ⟨[], tZ (dd f k)⟩ := by
  have c1 := small_C 1 (by omega) (by omega)
  by_cases h0 : k = 0
  · subst h0
    rw [show dd f 0 = 1 from rfl]
    refine callC_of Tryz.func110 rfl (by kernel_rfl) ?_; rw [Tryz.ntmps110]
    (refine WpA_sreg [] [] (by simp) fun K hK => ?_; simp (disch := omega) only [kc, prep1, slZ, Nat.reduceAdd, List.replicate, opS_alloc, newS, effA, ty_zero79, Value.oneCell', ifT]; (with_reducible refine hK _ ?_))
    (refine WpA_seq (WpA_sreg [] [] (by simp) fun K hK => ?_); simp (disch := omega) only [kc, prep1, effM, ofConst, Value.oneCell', evBin, decT]; (with_reducible refine hK _ ?_))
    refine WpA_cond rfl (fun _ => ?_) (fun h => by simp at h)
    (refine WpA_sreg [⟨0, _, _, _, c1⟩] [] (by simp) fun K hK => ?_; simp (disch := omega) only [kc, tZ, decF, CItem.a, prep1, opS_call, newS, effA, List.find?_cons, evAll, ofConst, Value.oneCell', norm, CallRes.plain, rawTV, rawAV, normOk, noRefTV, noRefAV, renTV, renAV, opS_store, wrS, effD, ty_sz79, updH, cellsOf, Nat.reduceAdd, Nat.le_refl, isPure, ifT, putCells, killTV, killAV]; (with_reducible refine hK _ ?_))
    (refine WpA_ret ⟨.inr rfl, ret_now rfl ?_ rfl⟩; simp (disch := omega) only [kc, resA, Tryz.results110, resOne, updH, ifF, packT, ty_sz79, ty_agg79, Nat.reduceAdd, Nat.le_refl, tZ, decF])
  · rw [show dd f k = detF k f from if_neg h0]
    have e1 : ((k : Int) - 1).toNat = k - 1 := by omega
    have a1 : (ldF n f)[k - 1]? = some (detF k f) := by rw [rowF_get _ (by omega), show k - 1 + 1 = k by omega]
    refine callC_of Tryz.func110 rfl (by kernel_rfl) ?_; rw [Tryz.ntmps110]
    (refine WpA_sreg [] [] (by simp) fun K hK => ?_; simp (disch := omega) only [kc, prep1, slZ, Nat.reduceAdd, List.replicate, opS_alloc, newS, effA, ty_zero79, Value.oneCell', ifT]; (with_reducible refine hK _ ?_))
    (refine WpA_seq (WpA_sreg [] [] (by simp) fun K hK => ?_); simp (disch := omega) only [kc, prep1, effM, ofConst, Value.oneCell', evBin, decF]; (with_reducible refine hK _ ?_))
    refine WpA_cond rfl (fun h => by simp at h <;> omega) (fun _ => WpA_skip ?_)
    show WpA _ _ _ _
    (refine WpA_sreg [] [] (by simp) fun K hK => ?_; simp (disch := omega) only [kc, prep1, Nat.reduceAdd, effM, ofConst, Value.oneCell', evBin, wrapI, opS_indexAddr, effR, natOf_pos, e1, ty_slice122, ls_get, a1, fZ, ty_sz79, packT, ty_agg79, Nat.le_refl, opS_store, wrS, effD, updH, cellsOf, isPure, ifT, putCells, killTV, killAV]; (with_reducible refine hK _ ?_))
    (refine WpA_ret ⟨.inr rfl, ret_now rfl ?_ rfl⟩; simp (disch := omega) only [kc, resA, Tryz.results110, resOne, updH, ifF, packT, ty_sz79, ty_agg79, Nat.reduceAdd, Nat.le_refl, tZ])
set_option maxRecDepth 100000 in
set_option maxHeartbeats 8000000 in
theorem Sized_C (n : Nat) (f : Nat → Nat → Int) (i j : Nat) (hn : n ≤ 16) (hi : i < n) (hj : j < n) (hf : ∀ i j, i < n → j < n → Sz (f i j) 1024) :
    CallC Tryz.prog 105 [slM (mat n n f), slZ (ldF n f), .raw (.int .i64 (i : Int)), .raw (.int .i64 (j : Int))] ⟨[], .raw (.bool (decide (2 * ((lam f i j).natAbs : Int) ≤ dd f (j + 1))))⟩ := by
  have hl := lam_sz hn hi hj hf
  have hd := dd_sz (k := j + 1) hn (by omega) hf
  have hla : Sz ((lam f i j).natAbs : Int) 67174400 := hl.le (by omega)
  have hm : Sz (2 * ((lam f i j).natAbs : Int)) (1 + 67174400) := Sz.mul (sz_lt (by decide) (by omega)) hla
  have c1 := small_C 2 (by omega) (by omega)
  have c2 := Lambda_C n f i j hn hi hj hf
  have c3 := abs_C (lam f i j) (hl.mono (by omega))
  have c4 := Mul_C 2 ((lam f i j).natAbs : Int) (sz_lt (by decide) (by omega)) (hla.mono (by omega))
  have c5 := minor_C n f (j + 1) hn (by omega)
  rw [show ((j + 1 : Nat) : Int) = (j : Int) + 1 by omega] at c5
  have c6 := Cmp_C (2 * ((lam f i j).natAbs : Int)) (dd f (j + 1)) (hm.mono (by omega)) (hd.mono (by omega))
  have hle := cmpZ_le (2 * ((lam f i j).natAbs : Int)) (dd f (j + 1))
  generalize lam f i j = l at *
  generalize dd f (j + 1) = d at *
  refine callC_of Tryz.func105 rfl (by kernel_rfl) ?_; rw [Tryz.ntmps105]
  (refine WpA_sreg [] [] (by simp) fun K hK => ?_; simp (disch := omega) only [kc, prep1, slM, slZ, Nat.reduceAdd, List.replicate, ofConst, Value.oneCell']; (with_reducible refine hK _ ?_))
  (refine WpA_sreg [⟨0, _, _, _, c1⟩, ⟨4, _, _, _, c2⟩, ⟨5, _, _, _, c3⟩, ⟨6, _, _, _, c4⟩, ⟨10, _, _, _, c5⟩, ⟨11, _, _, _, c6⟩] [] (by simp) fun K hK => ?_; simp (disch := omega) only [kc, tZ, decF, slM, slZ, CItem.a, prep1, Nat.reduceAdd, opS_call, newS, effA, List.find?_cons, evAll, ofConst, Value.oneCell', norm, CallRes.plain, rawTV, rawAV, normOk, noRefTV, noRefAV, renTV, renAV, Nat.reduceBEq, isPure, effM, evBin, wrapI, hle]; (with_reducible refine hK _ ?_))
  (refine WpA_ret ⟨.inr rfl, ret_now rfl ?_ rfl⟩; simp (disch := omega) only [resA, Tryz.results105, resOne, List.getElem?_cons_succ, List.getElem?_cons_zero])
set_option maxRecDepth 100000 in
set_option maxHeartbeats 8000000 in
theorem Lovasz_C (n : Nat) (f : Nat → Nat → Int) (i : Nat) (hn : n ≤ 16) (hi : i < n) (h0 : 0 < i) (hf : ∀ i j, i < n → j < n → Sz (f i j) 1024) :
    CallC Tryz.prog 111 [slM (mat n n f), slZ (ldF n f), .raw (.int .i64 (i : Int))] ⟨[], .raw (.bool (decide (3 * (dd f i * dd f i) ≤ 4 * (dd f (i - 1) * dd f (i + 1) + lam f i (i - 1) * lam f i (i - 1)))))⟩ := by
  have hl := lam_sz (j := i - 1) hn hi (by omega) hf
  have d0 := dd_sz (k := i - 1) hn (by omega) hf
  have d1 := dd_sz (k := i) hn (by omega) hf
  have d2 := dd_sz (k := i + 1) hn (by omega) hf
  have c0 := Lambda_C n f i (i - 1) hn hi (by omega) hf
  have c1 := minor_C n f (i - 1) hn (by omega)
  have c2 := minor_C n f (i + 1) hn (by omega)
  have c3 := minor_C n f i hn (by omega)
  rw [show ((i + 1 : Nat) : Int) = (i : Int) + 1 by omega] at c2
  rw [show ((i - 1 : Nat) : Int) = (i : Int) - 1 by omega] at c0 c1
  have s4 := small_C 4 (by omega) (by omega)
  have s3 := small_C 3 (by omega) (by omega)
  generalize lam f i (i - 1) = l at *
  generalize dd f (i - 1) = a at *
  generalize dd f (i + 1) = b at *
  generalize dd f i = d at *
  have z1 : Sz (a * b) 134348800 := (d0.mul d2).mono (by omega)
  have z2 : Sz (l * l) 134348800 := (hl.mul hl).mono (by omega)
  have z3 : Sz (a * b + l * l) 134348801 := z1.add z2
  have z4 : Sz (4 * (a * b + l * l)) 134348802 := (Sz.mul (sz_lt (k := 1) (by decide) (by omega)) z3).mono (by omega)
  have z5 : Sz (d * d) 134348800 := (d1.mul d1).mono (by omega)
  have z6 : Sz (3 * (d * d)) 134348802 := (Sz.mul (sz_lt (k := 1) (by decide) (by omega)) z5).mono (by omega)
  have m1 := Mul_C a b (d0.mono (by omega)) (d2.mono (by omega))
  have m2 := Mul_C l l (hl.mono (by omega)) (hl.mono (by omega))
  have m3 := Add_C (a * b) (l * l) (z1.mono (by omega)) (z2.mono (by omega))
  have m4 := Mul_C 4 (a * b + l * l) (sz_lt (by decide) (by omega)) (z3.mono (by omega))
  have m5 := Mul_C d d (d1.mono (by omega)) (d1.mono (by omega))
  have m6 := Mul_C 3 (d * d) (sz_lt (by decide) (by omega)) (z5.mono (by omega))
  have m7 := Cmp_C (4 * (a * b + l * l)) (3 * (d * d)) (z4.mono (by omega)) (z6.mono (by omega))
  have hge := cmpZ_ge (4 * (a * b + l * l)) (3 * (d * d))
  refine callC_of Tryz.func111 rfl (by kernel_rfl) ?_; rw [Tryz.ntmps111]
  (refine WpA_sreg [] [] (by simp) fun K hK => ?_; simp (disch := omega) only [kc, prep1, slM, slZ, Nat.reduceAdd, List.replicate, ofConst, Value.oneCell']; (with_reducible refine hK _ ?_))
  (refine WpA_sreg [⟨4, _, _, _, c0⟩] [] (by simp) fun K hK => ?_; simp (disch := omega) only [kc, slM, tZ, CItem.a, prep1, Nat.reduceAdd, effM, ofConst, Value.oneCell', evBin, wrapI, opS_call, newS, effA, List.find?_cons, evAll, norm, CallRes.plain, rawTV, rawAV, normOk, noRefTV, noRefAV, renTV, renAV, opS_alloc, ty_zero79, ifT, opS_store, wrS, effD, ty_sz79, updH, cellsOf, Nat.le_refl, isPure, putCells, killTV, killAV]; (with_reducible refine hK _ ?_))
  (refine WpA_sdraw mixedA [⟨0, _, _, _, s4⟩, ⟨4, _, _, _, c1⟩, ⟨8, _, _, _, c2⟩, ⟨9, _, _, _, m1⟩, ⟨12, _, _, _, m2⟩, ⟨13, _, _, _, m3⟩, ⟨14, _, _, _, m4⟩] [] (by kernel_rfl) (by simp) fun K hK => ?_; simp (disch := omega) only [kc, tZ, decF, slZ, CItem.a, prep1, Nat.reduceAdd, opS_call, newS, effA, List.find?_cons, evAll, ofConst, Value.oneCell', norm, CallRes.plain, rawTV, rawAV, normOk, noRefTV, noRefAV, renTV, renAV, effM, evBin, wrapI, Nat.reduceBEq, isPure, effR, updH, ifF, packT, ty_sz79, ty_agg79, Nat.le_refl, opS_alloc, ty_zero79, ifT, Nat.reduceEqDiff, opS_store, wrS, effD, cellsOf, putCells, killTV, killAV]; (with_reducible refine hK _ ?_))
  (refine WpA_sdraw mixedA [⟨1, _, _, _, s3⟩, ⟨4, _, _, _, c3⟩, ⟨7, _, _, _, c3⟩, ⟨8, _, _, _, m5⟩, ⟨9, _, _, _, m6⟩, ⟨10, _, _, _, m7⟩] [] (by kernel_rfl) (by simp) fun K hK => ?_; simp (disch := omega) only [kc, tZ, decF, slZ, CItem.a, prep1, Nat.reduceAdd, effR, updH, Nat.reduceEqDiff, ifF, packT, ty_sz79, ty_agg79, Nat.le_refl, opS_call, newS, effA, List.find?_cons, evAll, ofConst, Value.oneCell', norm, CallRes.plain, rawTV, rawAV, normOk, noRefTV, noRefAV, renTV, renAV, Nat.reduceBEq, isPure, effM, evBin, hge]; (with_reducible refine hK _ ?_))
  (refine WpA_ret ⟨.inr rfl, ret_now rfl ?_ rfl⟩; simp (disch := omega) only [resA, Tryz.results111, resOne, List.getElem?_cons_succ, List.getElem?_cons_zero])
structure RdG (n : Nat) (f : Nat → Nat → Int) where
  i : Nat
  hi : i ≤ n
  ok : ∀ a, a < i → (∀ b, b < a → SizF f a b) ∧ (0 < a → LovF f a)
structure RdJ (n i : Nat) (f : Nat → Nat → Int) where
  j : Nat
  hj : j ≤ i
  ok : ∀ b, b < j → SizF f i b
set_option maxRecDepth 100000 in
set_option maxHeartbeats 8000000 in
theorem reduced_C (n : Nat) (f : Nat → Nat → Int) (hn1 : 1 ≤ n) (hn : n ≤ 16) (hf : ∀ i j, i < n → j < n → Sz (f i j) 1024) (r : Bool) (hr : r = true ↔ RefF f n) :
    CallC Tryz.prog 77 [slM (mat n n f)] ⟨[], .raw (.bool r)⟩ := by
  have hL := Leading_C n f hn1 hn hf
  have hml := mat_len n n f
  refine callC_of Tryz.func77 rfl (by kernel_rfl) ?_; rw [Tryz.ntmps77]
  (refine WpA_sreg [] [] (by simp) fun K hK => ?_; simp (disch := omega) only [kc, prep1, slM, List.replicate, ofConst, Value.oneCell']; (with_reducible refine hK _ ?_))
  (refine WpA_sreg [⟨1, _, _, _, hL⟩] [] (by simp) fun K hK => ?_; simp (disch := omega) only [kc, slM, ldT, CItem.a, prep1, Nat.reduceAdd, opS_call, newS, effA, List.find?_cons, evAll, norm, CallRes.plain, rawTV, rawAV, normOk, noRefTV, noRefAV, renTV, renAV, opS_extract, effM]; (with_reducible refine hK _ ?_))
  (refine WpA_seq (WpA_sreg [] [] (by simp) fun K hK => ?_); simp (disch := omega) only [kc, prep1, Nat.reduceAdd, opS_len, effR, ty_slice50, ls_len, hml, ofConst, Value.oneCell']; (with_reducible refine hK _ ?_))
  refine WpA_forb (G := RdG n f) (fun g => ⟨[slM (mat n n f), jk, .raw (.bool false), slZ (ldF n f), jk, jk, jk, jk, jk, jk, jk, jk, jk, .raw (.int .i64 (n : Int)), .raw (.int .i64 (g.i : Int)), jk, jk, jk, jk, jk, jk, jk, jk, jk, jk, jk, jk, jk, jk, jk, jk, jk, jk, jk, jk, jk, jk, jk], Hm []⟩) (fun g => n - g.i) ⟨0, by omega, fun a ha => by omega⟩ ?_ ?_
  · refine Weak_sub trivial ?_
    simp [wkL, okTV, okAV]
  · rintro ⟨i, hi, ok⟩
    simp only
    by_cases hm : i < n
    · (refine WpA_sreg [] [] (by simp) fun K hK => ?_; simp (disch := omega) only [kc, prep1, slM, slZ, Hm, effM, evBin, decT]; (with_reducible refine hK _ ?_))
      refine WpA_seq (WpA_cond rfl (fun _ => WpA_skip ?_) (fun h => by simp at h <;> omega))
      refine WpA_seq (WpA_block ?_)
      (refine WpA_sreg [] [] (by simp) fun K hK => ?_; simp (disch := omega) only [kc, prep1]; (with_reducible refine hK _ ?_))
      (refine WpA_seq (WpA_sreg [] [] (by simp) fun K hK => ?_); simp (disch := omega) only [kc, prep1, ofConst, Value.oneCell']; (with_reducible refine hK _ ?_))
      refine WpA_forb (G := RdJ n i f) (fun g => ⟨[slM (mat n n f), jk, .raw (.bool false), slZ (ldF n f), jk, .raw (.int .i64 (i : Int)), .raw (.int .i64 (g.j : Int)), jk, jk, jk, jk, jk, jk, .raw (.int .i64 (n : Int)), .raw (.int .i64 (i : Int)), jk, jk, jk, jk, jk, jk, jk, jk, jk, jk, jk, jk, jk, jk, jk, jk, jk, jk, jk, jk, jk, jk, jk], Hm []⟩) (fun g => i - g.j) ⟨0, by omega, fun a ha => by omega⟩ ?_ ?_
      · refine Weak_sub trivial ?_
        simp [wkL, okTV, okAV]
      · rintro ⟨j, hj, okj⟩
        simp only
        by_cases hm2 : j < i
        · have c1 := Sized_C n f i j hn hm (by omega) hf
          by_cases hs : SizF f i j
          · rw [decide_eq_true (show 2 * ((lam f i j).natAbs : Int) ≤ dd f (j + 1) from hs)] at c1
            (refine WpA_seq (WpA_sreg [] [] (by simp) fun K hK => ?_); simp (disch := omega) only [kc, prep1, Nat.reduceAdd, slM, slZ, Hm, effM, evBin, decT]; (with_reducible refine hK _ ?_))
            refine WpA_cond rfl (fun _ => WpA_skip ?_) (fun h => by simp at h <;> omega)
            refine WpA_seq (WpA_block ?_)
            (refine WpA_sreg [⟨4, _, _, _, c1⟩] [] (by simp) fun K hK => ?_; simp (disch := omega) only [kc, slM, slZ, CItem.a, prep1, Nat.reduceAdd, opS_call, newS, effA, List.find?_cons, evAll, norm, CallRes.plain, rawTV, rawAV, normOk, noRefTV, noRefAV, renTV, renAV, opS_un, effM, evUn]; (with_reducible refine hK _ ?_))
            refine WpA_cond rfl (fun h => by simp at h) (fun _ => WpA_skip ?_)
            show WpA _ _ _ _
            ((refine WpA_lreg [] [] (by simp) fun K hK => ?_); simp (disch := omega) only [kc, prep1, Nat.reduceAdd, effM, ofConst, Value.oneCell', evBin, wrapI]; (with_reducible refine hK _ ?_))
            refine ⟨⟨j + 1, by omega, fun b hb => ?_⟩, by simp only; omega, Weak_sub trivial ?_⟩
            · by_cases e : b = j
              · subst e; exact hs
              · exact okj b (by omega)
            · simp [wkL, okTV, okAV]
          · have hr0 : r = false := by
              cases r with
              | false => rfl
              | true => exact absurd ((hr.1 rfl i hm).1 j hm2) hs
            subst hr0
            rw [decide_eq_false (show ¬ 2 * ((lam f i j).natAbs : Int) ≤ dd f (j + 1) from hs)] at c1
            (refine WpA_seq (WpA_sreg [] [] (by simp) fun K hK => ?_); simp (disch := omega) only [kc, prep1, Nat.reduceAdd, slM, slZ, Hm, effM, evBin, decT]; (with_reducible refine hK _ ?_))
            refine WpA_cond rfl (fun _ => WpA_skip ?_) (fun h => by simp at h <;> omega)
            refine WpA_seq (WpA_block ?_)
            (refine WpA_sreg [⟨4, _, _, _, c1⟩] [] (by simp) fun K hK => ?_; simp (disch := omega) only [kc, slM, slZ, CItem.a, prep1, Nat.reduceAdd, opS_call, newS, effA, List.find?_cons, evAll, norm, CallRes.plain, rawTV, rawAV, normOk, noRefTV, noRefAV, renTV, renAV, opS_un, effM, evUn, Bool.not_false]; (with_reducible refine hK _ ?_))
            refine WpA_cond rfl (fun _ => ?_) (fun h => by simp at h)
            (refine WpA_sreg [] [] (by simp) fun K hK => ?_; simp (disch := omega) only [kc, prep1, ofConst, Value.oneCell']; (with_reducible refine hK _ ?_))
            (refine WpA_ret ⟨.inr rfl, ret_now rfl ?_ rfl⟩; simp (disch := omega) only [resA, Tryz.results77, resOne, List.getElem?_cons_succ, List.getElem?_cons_zero])
        · have hji : j = i := by omega
          subst hji
          (refine WpA_seq (WpA_sreg [] [] (by simp) fun K hK => ?_); simp (disch := omega) only [kc, prep1, Nat.reduceAdd, slM, slZ, Hm, effM, evBin, decF]; (with_reducible refine hK _ ?_))
          refine WpA_cond rfl (fun h => by simp at h <;> omega) (fun _ => WpA_exit ?_)
          show WpA _ _ _ _
          by_cases h0 : 0 < j
          · have c1 := Lovasz_C n f j hn hm h0 hf
            by_cases hs : LovF f j
            · rw [decide_eq_true (show 3 * (dd f j * dd f j) ≤ 4 * (dd f (j - 1) * dd f (j + 1) + lam f j (j - 1) * lam f j (j - 1)) from hs)] at c1
              (refine WpA_sreg [⟨6, _, _, _, c1⟩] [] (by simp) fun K hK => ?_; simp (disch := omega) only [kc, slM, slZ, CItem.a, prep1, Nat.reduceAdd, effM, ofConst, Value.oneCell', evBin, decT, stS_guard, opS_call, newS, effA, List.find?_cons, evAll, norm, CallRes.plain, rawTV, rawAV, normOk, noRefTV, noRefAV, renTV, renAV, ifT, opS_un, evUn, opS_pick]; (with_reducible refine hK _ ?_))
              refine WpA_cond rfl (fun h => by simp at h) (fun _ => WpA_skip ?_)
              show WpA _ _ _ _
              ((refine WpA_lreg [] [] (by simp) fun K hK => ?_); simp (disch := omega) only [kc, prep1, effM, ofConst, Value.oneCell', evBin, wrapI]; (with_reducible refine hK _ ?_))
              refine ⟨⟨j + 1, by omega, fun a ha => ?_⟩, by simp only; omega, Weak_sub trivial ?_⟩
              · by_cases e : a = j
                · subst e; exact ⟨okj, fun _ => hs⟩
                · exact ok a (by omega)
              · simp [wkL, okTV, okAV]
            · have hr0 : r = false := by
                cases r with
                | false => rfl
                | true => exact absurd ((hr.1 rfl j hm).2 h0) hs
              subst hr0
              rw [decide_eq_false (show ¬ 3 * (dd f j * dd f j) ≤ 4 * (dd f (j - 1) * dd f (j + 1) + lam f j (j - 1) * lam f j (j - 1)) from hs)] at c1
              (refine WpA_sreg [⟨6, _, _, _, c1⟩] [] (by simp) fun K hK => ?_; simp (disch := omega) only [kc, slM, slZ, CItem.a, prep1, Nat.reduceAdd, effM, ofConst, Value.oneCell', evBin, decT, stS_guard, opS_call, newS, effA, List.find?_cons, evAll, norm, CallRes.plain, rawTV, rawAV, normOk, noRefTV, noRefAV, renTV, renAV, ifT, opS_un, evUn, Bool.not_false, opS_pick]; (with_reducible refine hK _ ?_))
              refine WpA_cond rfl (fun _ => ?_) (fun h => by simp at h)
              (refine WpA_sreg [] [] (by simp) fun K hK => ?_; simp (disch := omega) only [kc, prep1, ofConst, Value.oneCell']; (with_reducible refine hK _ ?_))
              (refine WpA_ret ⟨.inr rfl, ret_now rfl ?_ rfl⟩; simp (disch := omega) only [resA, Tryz.results77, resOne, List.getElem?_cons_succ, List.getElem?_cons_zero])
          · have hj0 : j = 0 := by omega
            subst hj0
            (refine WpA_sreg [] [] (by simp) fun K hK => ?_; simp (disch := omega) only [kc, prep1, Nat.reduceAdd, effM, ofConst, Value.oneCell', evBin, decF, stS_guard, opS_call, newS, effA, List.find?_nil, evAll, opS_un, Option.map_none, opS_pick]; (with_reducible refine hK _ ?_))
            refine WpA_cond rfl (fun h => by simp at h) (fun _ => WpA_skip ?_)
            show WpA _ _ _ _
            ((refine WpA_lreg [] [] (by simp) fun K hK => ?_); simp (disch := omega) only [kc, prep1, effM, ofConst, Value.oneCell', evBin, wrapI]; (with_reducible refine hK _ ?_))
            refine ⟨⟨1, by omega, fun a ha => ?_⟩, by simp only; omega, Weak_sub trivial ?_⟩
            · have : a = 0 := by omega
              subst this
              exact ⟨fun b hb => by omega, fun h => by omega⟩
            · simp [wkL, okTV, okAV]
    · have hr1 : r = true := hr.2 fun a ha => ok a (by omega)
      subst hr1
      (refine WpA_sreg [] [] (by simp) fun K hK => ?_; simp (disch := omega) only [kc, prep1, slM, slZ, Hm, effM, evBin, decF]; (with_reducible refine hK _ ?_))
      refine WpA_seq (WpA_cond rfl (fun h => by simp at h <;> omega) (fun _ => WpA_exit ?_))
      show WpA _ _ _ _
      (refine WpA_sreg [] [] (by simp) fun K hK => ?_; simp (disch := omega) only [kc, prep1, ofConst, Value.oneCell']; (with_reducible refine hK _ ?_))
      (refine WpA_ret ⟨.inr rfl, ret_now rfl ?_ rfl⟩; simp (disch := omega) only [resA, Tryz.results77, resOne, List.getElem?_cons_succ, List.getElem?_cons_zero])
end Go.Proofs.YtobnpabndpmabaaGreat
namespace Go.Proofs.YtobnpabndpmabaaGreat
open Go.RowKit
def validM (rows : List (List Int)) (x : List Int) : Bool := isReducedM rows && FitB rows.length x
set_option maxHeartbeats 400000 in
theorem valid_any (A B : Option Addr) (c d : Nat) (rows : List (List Int)) (x : List Int) (w : World) (hR : RdM .i64 w A rows) (hx : RdI .i64 w B x) (lr : rows.length ≤ 9223372036854775807) (hc : rows.length ≤ c) (lx : x.length ≤ 9223372036854775807) :
    Calls Tryz.prog 98 #[.slice A rows.length c, .slice B x.length d] w fun e w' => e = .returned (.bool (validM rows x)) ∧ Ext w w' := by
  have HR := Lib.hid hR
  have HX := Lib.hid hx
  clear hR hx
  cases hI : isReducedM rows with
  | false =>
    have HV : Hid (validM rows x = false) := Lib.hid (by simp [validM, hI])
    go_enter Tryz.func98, Tryz.ntmps98
    go_wp2_with (go_at_call 31; refine (isReduced_any A c rows _ HR.out lr hc).mono ?_; rintro e w1 ⟨rfl, he⟩)
    go_ret
    exact ⟨ret_bool HV.out.symm, he⟩
  | true =>
    have HV : Hid (validM rows x = FitB rows.length x) := Lib.hid (by simp [validM, hI])
    go_enter Tryz.func98, Tryz.ntmps98
    go_wp2_with (first | (go_at_call 31; refine (isReduced_any A c rows _ HR.out lr hc).mono ?_; rintro e w1 ⟨rfl, he⟩; have HE := Lib.hid he; clear he) | (go_at_call 33; refine (fits_any rows.length B d x _ (HX.out.ext HE.out) lx).mono ?_; rintro e w2 ⟨rfl, rfl⟩))
    go_ret
    exact ⟨ret_bool HV.out.symm, HE.out⟩
def innerV (rows : List (List Int)) (x y : List Int) : Value :=
  if validM rows x = true ∧ FitB rows.length y = true then dotV (accZ x (applyM rows y) x.length) else .tuple #[.int .i64 0, .bool false]
set_option maxHeartbeats 1000000 in
theorem inner_any (A B C : Option Addr) (c d d' : Nat) (rows : List (List Int)) (x y : List Int) (w : World) (hR : RdM .i64 w A rows) (hx : RdI .i64 w B x) (hy : RdI .i64 w C y) (lr : rows.length ≤ 9223372036854775807) (hc : rows.length ≤ c) (lx : x.length ≤ 9223372036854775807) (ly : y.length ≤ 9223372036854775807) :
    Calls Tryz.prog 52 #[.slice A rows.length c, .slice B x.length d, .slice C y.length d'] w fun e w' => e = .returned (innerV rows x y) ∧ Ext w w' := by
  have HR := Lib.hid hR
  have HX := Lib.hid hx
  have HY := Lib.hid hy
  clear hR hx hy
  cases hI : validM rows x with
  | false =>
    have HV : Hid (innerV rows x y = .tuple #[.int .i64 0, .bool false]) := Lib.hid (by unfold innerV; rw [if_neg (by simp [hI])])
    go_enter Tryz.func52, Tryz.ntmps52
    go_wp2_with (go_at_call 98; refine (valid_any A B c d rows x _ HR.out HX.out lr hc lx).mono ?_; rintro e w1 ⟨rfl, he⟩)
    go_ret2
    exact ⟨by rw [HV.out]; rfl, he⟩
  | true =>
    cases hF : FitB rows.length y with
    | false =>
      have HV : Hid (innerV rows x y = .tuple #[.int .i64 0, .bool false]) := Lib.hid (by unfold innerV; rw [if_neg (by simp [hF])])
      go_enter Tryz.func52, Tryz.ntmps52
      go_wp2_with (first | (go_at_call 98; refine (valid_any A B c d rows x _ HR.out HX.out lr hc lx).mono ?_; rintro e w1 ⟨rfl, he⟩; have HE := Lib.hid he; clear he) | (go_at_call 33; refine (fits_any rows.length C d' y _ (HY.out.ext HE.out) ly).mono ?_; rintro e w2 ⟨rfl, rfl⟩))
      go_ret2
      exact ⟨by rw [HV.out]; rfl, HE.out⟩
    | true =>
      have HV : Hid (innerV rows x y = dotV (accZ x (applyM rows y) x.length)) := Lib.hid (by unfold innerV; rw [if_pos ⟨hI, hF⟩])
      have hI' := hI
      unfold validM at hI'
      rw [Bool.and_eq_true, FitB_iff] at hI'
      obtain ⟨hr, hxl, hxb⟩ := hI'
      have hs := isReducedM_small hr
      have h8 : rows.length ≤ 8 := hs.2.1
      obtain ⟨hyl, hyb⟩ := FitB_iff.1 hF
      have hxle : x.length ≤ rows.length := by omega
      have hxge : rows.length ≤ x.length := by omega
      have hyge : rows.length ≤ y.length := by omega
      have HS := Lib.hid hs
      have HYB := Lib.hid hyb
      have HXB := Lib.hid hxb
      have HA := Lib.hid (applyM_bd hs hyb)
      have HAL := Lib.hid (applyM_length rows y)
      clear hr hxl hs hyl hyb hxb
      go_enter Tryz.func52, Tryz.ntmps52
      go_wp2_with (first | (go_at_call 98; refine (valid_any A B c d rows x _ HR.out HX.out lr hc lx).mono ?_; rintro e w1 ⟨rfl, he⟩; have HE := Lib.hid he; clear he) | (go_at_call 33; refine (fits_any rows.length C d' y _ (HY.out.ext HE.out) ly).mono ?_; rintro e w2 ⟨rfl, rfl⟩))
      refine (apply_any A C c d' rows y _ (HR.out.ext HE.out) (HY.out.ext HE.out) (by omega) (fun i hi => by rw [HS.out.2.2.1 i hi]; exact hyge) ly).mono ?_
      rintro e w2 ⟨rfl, hrd, he2⟩
      have HE2 := Lib.hid (HE.out.trans he2)
      have HRD := Lib.hid hrd
      clear hrd he2
      go_wp2_with fail
      have hcon := dot_any B (some ⟨w1.heap.size, 0, none⟩) d rows.length x (applyM rows y) w2 (HX.out.ext HE2.out) HRD.out (by rw [HAL.out]; exact hxle) (by omega) (by rw [HAL.out]; omega) (fun i z hz => InB_bounds HXB.out hz) HA.out
      rw [HAL.out] at hcon
      refine hcon.mono ?_
      rintro e w3 ⟨rfl, he3⟩
      have HE3 := Lib.hid (HE2.out.trans he3)
      clear he3 hcon
      have HD : Hid (∃ a b, dotV (accZ x (applyM rows y) x.length) = .tuple #[a, b]) := Lib.hid (by unfold dotV; split <;> exact ⟨_, _, rfl⟩)
      obtain ⟨va, vb, hd⟩ := HD.out
      rw [hd]
      have HDD := Lib.hid hd
      clear hd
      go_wp2_with fail
      go_ret2
      exact ⟨by rw [HV.out, HDD.out]; rfl, HE3.out⟩
set_option maxHeartbeats 400000 in
theorem norm_any (A B : Option Addr) (c d : Nat) (rows : List (List Int)) (x : List Int) (w : World) (hR : RdM .i64 w A rows) (hx : RdI .i64 w B x) (lr : rows.length ≤ 9223372036854775807) (hc : rows.length ≤ c) (lx : x.length ≤ 9223372036854775807) :
    Calls Tryz.prog 25 #[.slice A rows.length c, .slice B x.length d] w fun e w' => e = .returned (innerV rows x x) ∧ Ext w w' := by
  have HD : Hid (∃ a b, innerV rows x x = .tuple #[a, b]) := Lib.hid (by unfold innerV dotV; split <;> (try split) <;> exact ⟨_, _, rfl⟩)
  have hcon := inner_any A B B c d d rows x x w hR hx hx lr hc lx lx
  obtain ⟨va, vb, hd⟩ := HD.out
  rw [hd] at hcon
  rw [hd]
  have HC := Lib.hid hcon
  clear hcon hd HD
  go_enter Tryz.func25, Tryz.ntmps25
  go_wp2_with (go_at_call 52; refine HC.out.mono ?_; rintro e w1 ⟨rfl, he⟩)
  go_ret2
  exact ⟨rfl, he⟩
end Go.Proofs.YtobnpabndpmabaaGreat
namespace Go.Proofs.YtobnpabndpmabaaGreat
open Go.RowKit
def I64 (z : Int) : Prop := -9223372036854775808 ≤ z ∧ z ≤ 9223372036854775807
theorem I64.sz {z : Int} (h : I64 z) {k : Nat} (hk : 2 ≤ k) : Sz z k := by
  have : Sz z 2 := by
    unfold Sz
    have := h.1
    have := h.2
    rw [show (4294967296 : Nat) ^ 2 = 18446744073709551616 by decide]
    omega
  exact this.mono hk
def MI (M : List (List Int)) : Prop := ∀ r ∈ M, ∀ z ∈ r, I64 z
theorem MI.ent {M : List (List Int)} (h : MI M) (i j : Nat) : I64 (ent M i j) := by
  simp only [Go.Proofs.YtobnpabndpmabaaGreat.ent, List.getD_eq_getElem?_getD]
  cases hr : M[i]? with
  | none => simp [I64]
  | some r =>
    simp only [Option.getD_some]
    cases hz : r[j]? with
    | none => simp [I64]
    | some z => exact h r (List.mem_of_getElem? hr) z (List.mem_of_getElem? hz)
theorem sq_mat {n c : Nat} {f : Nat → Nat → Int} (hn : 1 ≤ n) : Sq (mat n c f) ↔ n = c := by
  unfold Sq
  rw [mat_len]
  have e : ∀ i, i < n → ((mat n c f).getD i []).length = c := fun i hi => by
    rw [List.getD_eq_getElem?_getD, mat_get _ _ hi, Option.getD_some, rowF_len]
  exact ⟨fun h => by rw [← e 0 (by omega), h 0 (by omega)], fun h i hi => by rw [e i hi, h]⟩
theorem RedR_congr {f g : Nat → Nat → Int} {n : Nat} (h : ∀ i j, i < n → j < n → f i j = g i j) (hf : RedR f n) : RedR g n := by
  obtain ⟨h1, h2, h3, h4⟩ := hf
  have ed : ∀ k, k ≤ n → dk g k = dk f k := fun k hk => dk_congr fun i j hi hj => (h i j (by omega) (by omega)).symm
  have eb : ∀ t i, t < n → i < n → bk g t i t = bk f t i t := fun t i ht hi => by
    have e1 : dk (lamF g i t) (t + 1) = bk g t i t := dk_row (fun r c hr hc => by unfold lamF; rw [if_pos hr]) (fun c hc => by unfold lamF; rw [if_neg (by omega)])
    have e2 : dk (lamF f i t) (t + 1) = bk f t i t := dk_row (fun r c hr hc => by unfold lamF; rw [if_pos hr]) (fun c hc => by unfold lamF; rw [if_neg (by omega)])
    rw [← e1, ← e2]
    refine dk_congr fun r c hr hc => ?_
    unfold lamF
    split
    · exact (h r c (by omega) (by omega)).symm
    · exact (h i c hi (by omega)).symm
  refine ⟨fun i hi j hj => by rw [← h i j hi hj, ← h j i hj hi]; exact h1 i hi j hj, fun k hk => by rw [ed (k + 1) (by omega)]; exact h2 k hk, by rw [ed n (by omega)]; exact h3, fun t ht => ⟨fun i hi hti => ?_, ?_⟩⟩
  · have := (h4 t ht).1 i hi hti
    rw [ed (t + 1) (by omega), eb t i (by omega) hi]; exact this
  · have := (h4 t ht).2
    unfold Lov at *
    rw [ed (t + 1) (by omega), ed t (by omega), ed (t + 1 + 1) (by omega), eb t (t + 1) (by omega) (by omega)]; exact this
theorem RedP_mat {n c : Nat} {f : Nat → Nat → Int} (hn1 : 1 ≤ n) : RedP (mat n c f) ↔ n = c ∧ n ≤ 8 ∧ RedR f n := by
  unfold RedP
  rw [mat_len, sq_mat hn1]
  constructor
  · rintro ⟨_, h8, rfl, hr⟩
    exact ⟨rfl, h8, RedR_congr (fun i j hi hj => ent_mat f hi hj) hr⟩
  · rintro ⟨rfl, h8, hr⟩
    exact ⟨hn1, h8, rfl, RedR_congr (fun i j hi hj => (ent_mat f hi hj).symm) hr⟩
set_option maxRecDepth 100000 in
set_option maxHeartbeats 8000000 in
theorem IsReduced_C (M : List (List Int)) (hM : MI M) : CallC Tryz.prog 37 [slI M] ⟨[], .raw (.bool (isReducedM M))⟩ := by
  have hr := isReducedM_iff M
  generalize isReducedM M = r at *
  by_cases hS : ShP M
  · obtain ⟨n, c, f, rfl, hn1, hn, hc1, hc, hf⟩ : ∃ n c f, M = mat n c f ∧ 1 ≤ n ∧ n ≤ 16 ∧ 1 ≤ c ∧ c ≤ 16 ∧ ∀ i j : Nat, I64 (f i j) := by
      have h0 := headD_at (M := M) hS.1
      have hh := hS.2.2 _ (List.mem_of_getElem? h0)
      exact ⟨M.length, (M.headD []).length, ent M, ShP_mat hS, hS.1, hS.2.1, hh.1, hh.2.1, fun i j => hM.ent i j⟩
    rw [RedP_mat hn1] at hr
    have hF := FromInts_C n c f hn1 hn hc1 hc (fun i j _ _ => hf i j)
    obtain ⟨e, he, hV⟩ := Validate_C n c f hn1 hn hc1 hc (fun i j _ _ => (hf i j).sz (by omega))
    by_cases h1 : e = 0
    · obtain ⟨rfl, h8, hs, hp⟩ := he.1 h1
      subst h1
      have hD := small8_C n f hn1 hn (fun i j _ _ => (hf i j).sz (by omega))
      by_cases h2 : detF n f ≤ 10000
      · rw [decide_eq_true h2] at hD
        have hR := reduced_C n f hn1 hn (fun i j _ _ => (hf i j).sz (by omega)) r (by
          rw [hr, ← ref_iff hn1]
          exact ⟨fun h => h.2.2.2.2.2, fun h => ⟨rfl, h8, hs, hp, h2, h⟩⟩)
        refine callC_of Tryz.func37 rfl (by kernel_rfl) ?_; rw [Tryz.ntmps37]
        (refine WpA_sreg [] [] (by simp) fun K hK => ?_; simp (disch := omega) only [kc, prep1, slI, List.replicate, ofConst, Value.oneCell']; (with_reducible refine hK _ ?_))
        (refine WpA_sreg [⟨1, _, _, _, hF⟩] [] (by simp) fun K hK => ?_; simp (disch := omega) only [kc, slI, fiY, CItem.a, prep1, Nat.reduceAdd, opS_call, newS, effA, List.find?_cons, evAll, norm, CallRes.plain, rawTV, rawAV, normOk, noRefTV, noRefAV, renTV, renAV, opS_extract, effM]; (with_reducible refine hK _ ?_))
        (refine WpA_sreg [⟨3, _, _, _, hV⟩, ⟨8, _, _, _, hD⟩, ⟨12, _, _, _, hR⟩] [] (by simp) fun K hK => ?_; simp (disch := omega) only [kc, slM, CItem.a, prep1, Nat.reduceAdd, stS_guard, opS_call, newS, effA, List.find?_cons, evAll, norm, CallRes.plain, rawTV, rawAV, normOk, noRefTV, noRefAV, renTV, renAV, ifT, effM, ofConst, Value.oneCell', evBin, decT, opS_pick, Nat.reduceBEq]; (with_reducible refine hK _ ?_))
        (refine WpA_ret ⟨.inr rfl, ret_now rfl ?_ rfl⟩; simp (disch := omega) only [resA, Tryz.results37, resOne, List.getElem?_cons_succ, List.getElem?_cons_zero])
      · have hr0 : r = false := by
          cases r with
          | false => rfl
          | true => exact absurd ((ref_iff hn1).2 (hr.1 rfl).2.2).2.2.1 h2
        subst hr0
        rw [decide_eq_false h2] at hD
        refine callC_of Tryz.func37 rfl (by kernel_rfl) ?_; rw [Tryz.ntmps37]
        (refine WpA_sreg [] [] (by simp) fun K hK => ?_; simp (disch := omega) only [kc, prep1, slI, List.replicate, ofConst, Value.oneCell']; (with_reducible refine hK _ ?_))
        (refine WpA_sreg [⟨1, _, _, _, hF⟩] [] (by simp) fun K hK => ?_; simp (disch := omega) only [kc, slI, fiY, CItem.a, prep1, Nat.reduceAdd, opS_call, newS, effA, List.find?_cons, evAll, norm, CallRes.plain, rawTV, rawAV, normOk, noRefTV, noRefAV, renTV, renAV, opS_extract, effM]; (with_reducible refine hK _ ?_))
        (refine WpA_sreg [⟨3, _, _, _, hV⟩, ⟨8, _, _, _, hD⟩] [] (by simp) fun K hK => ?_; simp (disch := omega) only [kc, slM, CItem.a, prep1, Nat.reduceAdd, stS_guard, opS_call, newS, effA, List.find?_cons, evAll, norm, CallRes.plain, rawTV, rawAV, normOk, noRefTV, noRefAV, renTV, renAV, ifT, effM, ofConst, Value.oneCell', evBin, decT, opS_pick, Nat.reduceBEq, List.find?_nil]; (with_reducible refine hK _ ?_))
        (refine WpA_ret ⟨.inr rfl, ret_now rfl ?_ rfl⟩; simp (disch := omega) only [resA, Tryz.results37, resOne, List.getElem?_cons_succ, List.getElem?_cons_zero])
    · have hr0 : r = false := by
        cases r with
        | false => rfl
        | true =>
          obtain ⟨g1, g2, g3⟩ := hr.1 rfl
          subst g1
          obtain ⟨g4, g5, _⟩ := (ref_iff hn1).2 g3
          exact absurd (he.2 ⟨rfl, g2, g4, g5⟩) h1
      subst hr0
      refine callC_of Tryz.func37 rfl (by kernel_rfl) ?_; rw [Tryz.ntmps37]
      (refine WpA_sreg [] [] (by simp) fun K hK => ?_; simp (disch := omega) only [kc, prep1, slI, List.replicate, ofConst, Value.oneCell']; (with_reducible refine hK _ ?_))
      (refine WpA_sreg [⟨1, _, _, _, hF⟩] [] (by simp) fun K hK => ?_; simp (disch := omega) only [kc, slI, fiY, CItem.a, prep1, Nat.reduceAdd, opS_call, newS, effA, List.find?_cons, evAll, norm, CallRes.plain, rawTV, rawAV, normOk, noRefTV, noRefAV, renTV, renAV, opS_extract, effM]; (with_reducible refine hK _ ?_))
      (refine WpA_sreg [⟨3, _, _, _, hV⟩] [] (by simp) fun K hK => ?_; simp (disch := omega) only [kc, slM, CItem.a, prep1, Nat.reduceAdd, stS_guard, opS_call, newS, effA, List.find?_cons, evAll, norm, CallRes.plain, rawTV, rawAV, normOk, noRefTV, noRefAV, renTV, renAV, ifT, effM, ofConst, Value.oneCell', evBin, decF, opS_pick, Nat.reduceBEq, List.find?_nil]; (with_reducible refine hK _ ?_))
      (refine WpA_ret ⟨.inr rfl, ret_now rfl ?_ rfl⟩; simp (disch := omega) only [resA, Tryz.results37, resOne, List.getElem?_cons_succ, List.getElem?_cons_zero])
  · have hF := FromInts_no M hS
    have hr0 : r = false := by
      cases r with
      | false => rfl
      | true =>
        obtain ⟨g1, g2, g3, _⟩ := hr.1 rfl
        refine absurd ⟨g1, by omega, fun x hx => ?_⟩ hS
        obtain ⟨i, hi⟩ := List.mem_iff_getElem?.1 hx
        have hl : ∀ (i : Nat) x, M[i]? = some x → x.length = M.length := fun i x hi => by
          have := g3 i (List.getElem?_eq_some_iff.1 hi).1
          rwa [List.getD_eq_getElem?_getD, hi] at this
        rw [rOk, hl i x hi, hl 0 _ (headD_at g1)]
        omega
    subst hr0
    refine callC_of Tryz.func37 rfl (by kernel_rfl) ?_; rw [Tryz.ntmps37]
    (refine WpA_sreg [] [] (by simp) fun K hK => ?_; simp (disch := omega) only [kc, prep1, slI, List.replicate, ofConst, Value.oneCell']; (with_reducible refine hK _ ?_))
    (refine WpA_sreg [⟨1, _, _, _, hF⟩] [] (by simp) fun K hK => ?_; simp (disch := omega) only [kc, slI, fiN, CItem.a, prep1, Nat.reduceAdd, opS_call, newS, effA, List.find?_cons, evAll, norm, CallRes.plain, rawTV, rawAV, normOk, noRefTV, noRefAV, renTV, renAV, opS_extract, effM]; (with_reducible refine hK _ ?_))
    (refine WpA_sreg [] [] (by simp) fun K hK => ?_; simp (disch := omega) only [kc, prep1, Nat.reduceAdd, stS_guard, opS_call, newS, effA, List.find?_nil, evAll, effM, ofConst, Value.oneCell', Option.map_none, opS_pick]; (with_reducible refine hK _ ?_))
    (refine WpA_ret ⟨.inr rfl, ret_now rfl ?_ rfl⟩; simp (disch := omega) only [resA, Tryz.results37, resOne, List.getElem?_cons_succ, List.getElem?_cons_zero])
abbrev sl1 (l : List Int) : TV := .one (.p (.sl (ls fI l)))
structure InG (x : List Int) where
  i : Nat
  hi : i ≤ x.length
  ok : ∀ j c, j < i → x[j]? = some c → -1099511627776 ≤ c ∧ c ≤ 1099511627776
set_option maxRecDepth 100000 in
set_option maxHeartbeats 8000000 in
theorem inside_C (x : List Int) : CallC Tryz.prog 48 [sl1 x] ⟨[], .raw (.bool (InB x))⟩ := by
  refine callC_len 0 (ls fI x) rfl (fun hlen => ?_) (by kernel_rfl)
  rw [ls_len] at hlen
  refine callC_of Tryz.func48 rfl (by kernel_rfl) ?_; rw [Tryz.ntmps48]
  (refine WpA_sreg [] [] (by simp) fun K hK => ?_; simp (disch := omega) only [kc, prep1, sl1, List.replicate, ofConst, Value.oneCell']; (with_reducible refine hK _ ?_))
  (refine WpA_seq (WpA_sreg [] [] (by simp) fun K hK => ?_); simp (disch := omega) only [kc, prep1, Nat.reduceAdd, opS_len, effR, ty_slice29, ls_len, ofConst, Value.oneCell']; (with_reducible refine hK _ ?_))
  refine WpA_forb (G := InG x) (fun g => ⟨[jk, jk, .raw (.bool false), jk, jk, sl1 x, .raw (.int .i64 (x.length : Int)), .raw (.int .i64 (g.i : Int)), jk, jk, jk, jk, jk, jk, jk, jk, jk, jk], Hm []⟩) (fun g => x.length - g.i) ⟨0, by omega, fun j c hj => by omega⟩ ?_ ?_
  · refine Weak_sub trivial ?_
    simp [wkL, okTV, okAV]
  · rintro ⟨i, hi, ok⟩
    simp only
    by_cases hm : i < x.length
    · obtain ⟨c, hc⟩ := getElem?_of_lt hm
      (refine WpA_sreg [] [] (by simp) fun K hK => ?_; simp (disch := omega) only [kc, prep1, sl1, Hm, effM, evBin, decT]; (with_reducible refine hK _ ?_))
      refine WpA_seq (WpA_cond rfl (fun _ => WpA_skip ?_) (fun h => by simp at h <;> omega))
      refine WpA_seq (WpA_block ?_)
      (refine WpA_sreg [] [] (by simp) fun K hK => ?_; simp (disch := omega) only [kc, prep1, Nat.reduceAdd, opS_indexAddr, effR, natOf_pos, ty_slice29, ls_get, hc, fI, ty_sz2, packT, ty_agg2]; (with_reducible refine hK _ ?_))
      by_cases h1 : c < -1099511627776
      · rw [InB_false hc (.inl h1)]
        (refine WpA_sreg [] [] (by simp) fun K hK => ?_; simp (disch := omega) only [kc, prep1, Nat.reduceAdd, effM, ofConst, Value.oneCell', evBin, decT, stS_guard, reduceCtorEq, Option.map_none, opS_pick]; (with_reducible refine hK _ ?_))
        refine WpA_cond rfl (fun _ => ?_) (fun h => by simp at h <;> omega)
        (refine WpA_sreg [] [] (by simp) fun K hK => ?_; simp (disch := omega) only [kc, prep1, ofConst, Value.oneCell']; (with_reducible refine hK _ ?_))
        (refine WpA_ret ⟨.inr rfl, ret_now rfl ?_ rfl⟩; simp (disch := omega) only [resA, Tryz.results48, resOne, List.getElem?_cons_succ, List.getElem?_cons_zero])
      by_cases h2 : 1099511627776 < c
      · rw [InB_false hc (.inr h2)]
        (refine WpA_sreg [] [] (by simp) fun K hK => ?_; simp (disch := omega) only [kc, prep1, Nat.reduceAdd, effM, ofConst, Value.oneCell', evBin, decF, stS_guard, ifT, decT, opS_pick]; (with_reducible refine hK _ ?_))
        refine WpA_cond rfl (fun _ => ?_) (fun h => by simp at h <;> omega)
        (refine WpA_sreg [] [] (by simp) fun K hK => ?_; simp (disch := omega) only [kc, prep1, ofConst, Value.oneCell']; (with_reducible refine hK _ ?_))
        (refine WpA_ret ⟨.inr rfl, ret_now rfl ?_ rfl⟩; simp (disch := omega) only [resA, Tryz.results48, resOne, List.getElem?_cons_succ, List.getElem?_cons_zero])
      (refine WpA_sreg [] [] (by simp) fun K hK => ?_; simp (disch := omega) only [kc, prep1, Nat.reduceAdd, effM, ofConst, Value.oneCell', evBin, decF, stS_guard, ifT, opS_pick]; (with_reducible refine hK _ ?_))
      refine WpA_cond rfl (fun h => by simp at h <;> omega) (fun _ => WpA_skip ?_)
      show WpA _ _ _ _
      ((refine WpA_lreg [] [] (by simp) fun K hK => ?_); simp (disch := omega) only [kc, prep1, effM, ofConst, Value.oneCell', evBin, wrapI]; (with_reducible refine hK _ ?_))
      refine ⟨⟨i + 1, by omega, upto_succ ok hc (by omega)⟩, by simp only; omega, Weak_sub trivial ?_⟩
      simp [wkL, okTV, okAV]
    · rw [InB_true (k := i) (by omega) ok]
      (refine WpA_sreg [] [] (by simp) fun K hK => ?_; simp (disch := omega) only [kc, prep1, sl1, Hm, effM, evBin, decF]; (with_reducible refine hK _ ?_))
      refine WpA_seq (WpA_cond rfl (fun h => by simp at h <;> omega) (fun _ => WpA_exit ?_))
      show WpA _ _ _ _
      (refine WpA_sreg [] [] (by simp) fun K hK => ?_; simp (disch := omega) only [kc, prep1, ofConst, Value.oneCell']; (with_reducible refine hK _ ?_))
      (refine WpA_ret ⟨.inr rfl, ret_now rfl ?_ rfl⟩; simp (disch := omega) only [resA, Tryz.results48, resOne, List.getElem?_cons_succ, List.getElem?_cons_zero])
set_option maxRecDepth 100000 in
set_option maxHeartbeats 8000000 in
theorem Fits_C (n : Nat) (x : List Int) : CallC Tryz.prog 120 [.raw (.int .i64 (n : Int)), sl1 x] ⟨[], .raw (.bool (FitB n x))⟩ := by
  have hI := inside_C x
  by_cases h : (x.length : Int) = (n : Int)
  · rw [show FitB n x = InB x by simp [FitB, h]]
    refine callC_of Tryz.func120 rfl (by kernel_rfl) ?_; rw [Tryz.ntmps120]
    (refine WpA_sreg [] [] (by simp) fun K hK => ?_; simp (disch := omega) only [kc, prep1, sl1, Nat.reduceAdd, List.replicate, ofConst, Value.oneCell']; (with_reducible refine hK _ ?_))
    (refine WpA_sreg [⟨6, _, _, _, hI⟩] [] (by simp) fun K hK => ?_; simp (disch := omega) only [kc, sl1, CItem.a, prep1, Nat.reduceAdd, opS_len, effR, ty_slice29, ls_len, effM, evBin, decT, stS_guard, opS_call, newS, effA, List.find?_cons, evAll, norm, CallRes.plain, rawTV, rawAV, normOk, noRefTV, noRefAV, renTV, renAV, ifT, opS_pick]; (with_reducible refine hK _ ?_))
    (refine WpA_ret ⟨.inr rfl, ret_now rfl ?_ rfl⟩; simp (disch := omega) only [resA, Tryz.results120, resOne, List.getElem?_cons_succ, List.getElem?_cons_zero])
  · rw [show FitB n x = false by simp [FitB, h]]
    refine callC_of Tryz.func120 rfl (by kernel_rfl) ?_; rw [Tryz.ntmps120]
    (refine WpA_sreg [] [] (by simp) fun K hK => ?_; simp (disch := omega) only [kc, prep1, sl1, Nat.reduceAdd, List.replicate, ofConst, Value.oneCell']; (with_reducible refine hK _ ?_))
    (refine WpA_sreg [] [] (by simp) fun K hK => ?_; simp (disch := omega) only [kc, prep1, Nat.reduceAdd, opS_len, effR, ty_slice29, ls_len, effM, evBin, decF, stS_guard, opS_call, newS, effA, List.find?_nil, evAll, opS_pick, ofConst, Value.oneCell']; (with_reducible refine hK _ ?_))
    (refine WpA_ret ⟨.inr rfl, ret_now rfl ?_ rfl⟩; simp (disch := omega) only [resA, Tryz.results120, resOne, List.getElem?_cons_succ, List.getElem?_cons_zero])
set_option maxRecDepth 100000 in
set_option maxHeartbeats 8000000 in
theorem Valid_C (M : List (List Int)) (x : List Int) (hM : MI M) : CallC Tryz.prog 79 [slI M, sl1 x] ⟨[], .raw (.bool (validM M x))⟩ := by
  have hR := IsReduced_C M hM
  have hF := Fits_C M.length x
  unfold validM
  cases h : isReducedM M with
  | true =>
    rw [h] at hR
    rw [Bool.true_and]
    refine callC_of Tryz.func79 rfl (by kernel_rfl) ?_; rw [Tryz.ntmps79]
    (refine WpA_sreg [] [] (by simp) fun K hK => ?_; simp (disch := omega) only [kc, prep1, slI, sl1, Nat.reduceAdd, List.replicate, ofConst, Value.oneCell']; (with_reducible refine hK _ ?_))
    (refine WpA_sreg [⟨1, _, _, _, hR⟩, ⟨6, _, _, _, hF⟩] [] (by simp) fun K hK => ?_; simp (disch := omega) only [kc, slI, sl1, CItem.a, prep1, Nat.reduceAdd, opS_call, newS, effA, List.find?_cons, evAll, norm, CallRes.plain, rawTV, rawAV, normOk, noRefTV, noRefAV, renTV, renAV, stS_guard, opS_len, effR, ty_slice26, ls_len, Nat.reduceBEq, ifT, opS_pick, effM]; (with_reducible refine hK _ ?_))
    (refine WpA_ret ⟨.inr rfl, ret_now rfl ?_ rfl⟩; simp (disch := omega) only [resA, Tryz.results79, resOne, List.getElem?_cons_succ, List.getElem?_cons_zero])
  | false =>
    rw [h] at hR
    rw [Bool.false_and]
    refine callC_of Tryz.func79 rfl (by kernel_rfl) ?_; rw [Tryz.ntmps79]
    (refine WpA_sreg [] [] (by simp) fun K hK => ?_; simp (disch := omega) only [kc, prep1, slI, sl1, Nat.reduceAdd, List.replicate, ofConst, Value.oneCell']; (with_reducible refine hK _ ?_))
    (refine WpA_sreg [⟨1, _, _, _, hR⟩] [] (by simp) fun K hK => ?_; simp (disch := omega) only [kc, slI, CItem.a, prep1, Nat.reduceAdd, opS_call, newS, effA, List.find?_cons, evAll, norm, CallRes.plain, rawTV, rawAV, normOk, noRefTV, noRefAV, renTV, renAV, stS_guard, opS_len, effR, ty_slice26, Option.map_none, Nat.reduceBEq, List.find?_nil, opS_pick, effM, ofConst, Value.oneCell']; (with_reducible refine hK _ ?_))
    (refine WpA_ret ⟨.inr rfl, ret_now rfl ?_ rfl⟩; simp (disch := omega) only [resA, Tryz.results79, resOne, List.getElem?_cons_succ, List.getElem?_cons_zero])
set_option maxRecDepth 100000 in
set_option maxHeartbeats 8000000 in
theorem Column_C (x : List Int) (hx : x.length ≤ 16) (hI : ∀ z ∈ x, I64 z) : CallC Tryz.prog 122 [sl1 x] ⟨[], slZ x⟩ := by
  refine callC_of Tryz.func122 rfl (by kernel_rfl) ?_; rw [Tryz.ntmps122]
  (refine WpA_sreg [] [] (by simp) fun K hK => ?_; simp (disch := omega) only [kc, prep1, sl1, List.replicate, ofConst, Value.oneCell']; (with_reducible refine hK _ ?_))
  (refine WpA_sreg [] [] (by simp) fun K hK => ?_; simp (disch := omega) only [kc, prep1, ofConst, Value.oneCell']; (with_reducible refine hK _ ?_))
  (refine WpA_seq (WpA_sreg [] [] (by simp) fun K hK => ?_); simp (disch := omega) only [kc, prep1, Nat.reduceAdd, opS_len, effR, ty_slice29, ls_len, ofConst, Value.oneCell']; (with_reducible refine hK _ ?_))
  refine WpA_forb (G := SeG x.length) (fun g => ⟨[jk, jk, .raw (.slice none 0 0), .one (.sl 16 0 0 g.i), jk, jk, sl1 x, .raw (.int .i64 (x.length : Int)), .raw (.int .i64 (g.i : Int)), jk, jk, jk, jk, jk, jk, jk, jk, jk, jk], Hm [(16, [⟨79, 2, lc fZ (x.take g.i)⟩])]⟩) (fun g => x.length - g.i) ⟨0, by omega⟩ ?_ ?_
  · refine (Weak_nil (k := 3) (d := 16) 79 2 (by omega) rfl rfl).trans (Weak_sub ⟨rfl, trivial⟩ ?_)
    simp [wkL, okTV, okAV]
  · rintro ⟨i, hi⟩
    simp only
    by_cases hm : i < x.length
    · obtain ⟨c, hc⟩ := getElem?_of_lt hm
      have hcI := hI c (List.mem_of_getElem? hc)
      have c1 := small_C c hcI.1 hcI.2
      have eL : (x.take i).length = i := by simp; omega
      have eS : x.take i ++ [c] = x.take (i + 1) := by rw [List.take_add_one, hc]; rfl
      (refine WpA_sreg [] [] (by simp) fun K hK => ?_; simp (disch := omega) only [kc, prep1, sl1, Hm, effM, evBin, decT]; (with_reducible refine hK _ ?_))
      refine WpA_seq (WpA_cond rfl (fun _ => WpA_skip ?_) (fun h => by simp at h <;> omega))
      refine WpA_seq (WpA_block ?_)
      (refine WpA_sreg [] [] (by simp) fun K hK => ?_; simp (disch := omega) only [kc, prep1, Nat.reduceAdd, opS_indexAddr, effR, natOf_pos, ty_slice29, ls_get, hc, fI, ty_sz2, packT, ty_agg2]; (with_reducible refine hK _ ?_))
      ((refine WpA_lreg [⟨2, _, _, _, c1⟩] [] (by simp) fun K hK => ?_); simp (disch := omega) only [kc, tZ, CItem.a, prep1, Nat.reduceAdd, opS_call, newS, effA, List.find?_cons, evAll, norm, CallRes.plain, rawTV, rawAV, normOk, noRefTV, noRefAV, renTV, renAV, opS_buildSlice, ty_slice122, ty_zero79, ty_sz79, litA, cellsOf, isPure, Nat.reduceMul, Nat.reduceLeDiff, List.contains_nil, unP, ifT, opS_append, appS, effD, newsOf, ty_by79, lc_allp, lc_len, eL, allcons, allnil, and_true, killO, lc_kill, lcZ_snoc, eS, wrS, killTV, killAV]; (with_reducible refine hK _ ?_))
      show WpA _ _ _ _
      ((refine WpA_lreg [] [] (by simp) fun K hK => ?_); simp (disch := omega) only [kc, prep1, effM, ofConst, Value.oneCell', evBin, wrapI]; (with_reducible refine hK _ ?_))
      refine ⟨⟨i + 1, by omega⟩, by simp only; omega, Weak_sub ⟨rfl, trivial⟩ ?_⟩
      simp [wkL, okTV, okAV]
    · have hin : i = x.length := by omega
      subst hin
      (refine WpA_sreg [] [] (by simp) fun K hK => ?_; simp (disch := omega) only [kc, prep1, sl1, Hm, effM, evBin, decF]; (with_reducible refine hK _ ?_))
      refine WpA_seq (WpA_cond rfl (fun h => by simp at h <;> omega) (fun _ => WpA_exit ?_))
      show WpA _ _ _ _
      (refine WpA_sreg [] [] (by simp) fun K hK => ?_; simp (disch := omega) only [kc, prep1]; (with_reducible refine hK _ ?_))
      refine WpA_ret ⟨.inr rfl, ret_fz 16 (fzOk_one rfl) ?_ rfl⟩
      simp (disch := omega) only [kc, resA, Tryz.results122, resOne, List.take_length, fzTV, fzAV, ifT, lc_take, lc_cellF, slZ]
theorem accZ_sz {x y : List Int} {b c : Nat} (hx : ∀ i, Sz (x.getD i 0) b) (hy : ∀ i, Sz (y.getD i 0) c) : ∀ l, Sz (accZ x y l) (b + c + l)
  | 0 => sz_zero _
  | l + 1 => by
    show Sz (accZ x y l + x.getD l 0 * y.getD l 0) _
    exact (accZ_sz hx hy l).add (((hx l).mul (hy l)).mono (by omega))
theorem getD_sz {x : List Int} {b : Nat} (h : ∀ z ∈ x, Sz z b) (i : Nat) : Sz (x.getD i 0) b := by
  rw [List.getD_eq_getElem?_getD]
  cases hx : x[i]? with
  | none => exact sz_zero _
  | some z => exact h z (List.mem_of_getElem? hx)
set_option maxRecDepth 100000 in
set_option maxHeartbeats 8000000 in
theorem Dot_C (x y : List Int) (hx : x.length ≤ 16) (hxy : x.length ≤ y.length) (sx : ∀ z ∈ x, Sz z 16777216) (sy : ∀ z ∈ y, Sz z 67108864) : CallC Tryz.prog 123 [slZ x, slZ y] ⟨[], tZ (accZ x y x.length)⟩ := by
  refine callC_of Tryz.func123 rfl (by kernel_rfl) ?_; rw [Tryz.ntmps123]
  (refine WpA_sreg [] [] (by simp) fun K hK => ?_; simp (disch := omega) only [kc, prep1, slZ, Nat.reduceAdd, List.replicate, opS_alloc, newS, effA, ty_zero79, Value.oneCell', ifT]; (with_reducible refine hK _ ?_))
  (refine WpA_sreg [] [] (by simp) fun K hK => ?_; simp (disch := omega) only [kc, prep1, Nat.reduceAdd, opS_build, effR, ty_zero79, ty_plc79, Value.oneCell', fillA, opS_alloc, newS, effA, ifT, updH, Nat.reduceEqDiff, opS_store, wrS, effD, ty_sz79, cellsOf, Nat.le_refl, isPure, putCells, killTV, killAV]; (with_reducible refine hK _ ?_))
  (refine WpA_seq (WpA_sreg [] [] (by simp) fun K hK => ?_); simp (disch := omega) only [kc, prep1, Nat.reduceAdd, opS_len, effR, ty_slice122, ls_len, ofConst, Value.oneCell']; (with_reducible refine hK _ ?_))
  refine WpA_forb (G := SeG x.length) (fun g => ⟨[slZ x, slZ y, jk, jk, .one (.ptr 4 0 0 0), .one (.ptr 5 0 0 0), jk, jk, jk, .raw (.int .i64 (x.length : Int)), .raw (.int .i64 (g.i : Int)), jk, jk, jk, jk, jk, jk, jk, jk, jk, jk, jk, jk, jk, jk, jk], Hm [(4, bx0), (5, bxV (accZ x y g.i))]⟩) (fun g => x.length - g.i) ⟨0, by omega⟩ ?_ ?_
  · refine (Weak_zH 5).trans (Weak_sub ⟨rfl, ?_, trivial⟩ ?_)
    · show _ = bxV 0
      simp [zH, updH, zO, zAV, zPV, bxV, bxZ, limbs_zero, ls]
    · simp [wkL, okTV, okAV]
  · rintro ⟨i, hi⟩
    simp only
    have hs := accZ_sz (getD_sz sx) (getD_sz sy) i
    by_cases hm : i < x.length
    · obtain ⟨a, ha⟩ := getElem?_of_lt hm
      obtain ⟨b, hb⟩ := getElem?_of_lt (l := y) (k := i) (by omega)
      have za := sx a (List.mem_of_getElem? ha)
      have zb := sy b (List.mem_of_getElem? hb)
      have c1 := Mul_C a b (za.mono (by omega)) (zb.mono (by omega))
      have c2 := Add_C (accZ x y i) (a * b) (hs.mono (by omega)) ((za.mul zb).mono (by omega))
      have e1 : accZ x y i + a * b = accZ x y (i + 1) := by
        show _ = accZ x y i + x.getD i 0 * y.getD i 0
        rw [List.getD_eq_getElem?_getD, List.getD_eq_getElem?_getD, ha, hb]; rfl
      rw [e1] at c2
      (refine WpA_sreg [] [] (by simp) fun K hK => ?_; simp (disch := omega) only [kc, prep1, slZ, Hm, effM, evBin, decT]; (with_reducible refine hK _ ?_))
      refine WpA_seq (WpA_cond rfl (fun _ => WpA_skip ?_) (fun h => by simp at h <;> omega))
      refine WpA_seq (WpA_block ?_)
      (refine WpA_sreg [] [] (by simp) fun K hK => ?_; simp (disch := omega) only [kc, prep1]; (with_reducible refine hK _ ?_))
      ((refine WpA_ldraw mixedA [⟨9, _, _, _, c1⟩, ⟨10, _, _, _, c2⟩] [] (by kernel_rfl) (by simp) fun K hK => ?_); simp (disch := omega) only [kc, tZ, CItem.a, prep1, Nat.reduceAdd, effR, Nat.reduceEqDiff, packT, ty_sz79, ty_agg79, Nat.le_refl, opS_indexAddr, natOf_pos, ty_slice122, ls_get, ha, fZ, hb, opS_call, newS, effA, List.find?_cons, evAll, norm, CallRes.plain, rawTV, rawAV, normOk, isPure, noRefTV, noRefAV, renTV, renAV, Nat.reduceBEq, opS_store, wrS, effD, cellsOf, ifT, putCells, killTV, killAV]; (with_reducible refine hK _ ?_))
      show WpA _ _ _ _
      ((refine WpA_lreg [] [] (by simp) fun K hK => ?_); simp (disch := omega) only [kc, prep1, effM, ofConst, Value.oneCell', evBin, wrapI]; (with_reducible refine hK _ ?_))
      refine ⟨⟨i + 1, by omega⟩, by simp only; omega, Weak_sub ⟨rfl, rfl, trivial⟩ ?_⟩
      simp [wkL, okTV, okAV]
    · have hin : i = x.length := by omega
      subst hin
      (refine WpA_sreg [] [] (by simp) fun K hK => ?_; simp (disch := omega) only [kc, prep1, slZ, Hm, effM, evBin, decF]; (with_reducible refine hK _ ?_))
      refine WpA_seq (WpA_cond rfl (fun h => by simp at h <;> omega) (fun _ => WpA_exit ?_))
      show WpA _ _ _ _
      (refine WpA_sreg [] [] (by simp) fun K hK => ?_; simp (disch := omega) only [kc, prep1, effR, Nat.reduceEqDiff, packT, ty_sz79, ty_agg79, Nat.reduceAdd, Nat.le_refl, opS_store, wrS, effD, cellsOf, isPure, ifT, putCells, killTV, killAV]; (with_reducible refine hK _ ?_))
      (refine WpA_ret ⟨.inr rfl, ret_now rfl ?_ rfl⟩; simp (disch := omega) only [kc, resA, Tryz.results123, resOne, updH, Nat.reduceEqDiff, ifF, packT, ty_sz79, ty_agg79, Nat.reduceAdd, Nat.le_refl, tZ])
end Go.Proofs.YtobnpabndpmabaaGreat
namespace Go.Proofs.YtobnpabndpmabaaGreat
open Go.RowKit
abbrev apZ (n c : Nat) (f : Nat → Nat → Int) (y : List Int) : List Int := rowF n fun i => accZ (rowF c (f i)) y c
set_option maxRecDepth 100000 in
set_option maxHeartbeats 8000000 in
theorem Apply_C (n c : Nat) (f : Nat → Nat → Int) (y : List Int) (hn1 : 1 ≤ n) (hn : n ≤ 16) (hc1 : 1 ≤ c) (hc : c ≤ 16) (hy : y.length = c) (hf : ∀ i j : Nat, Sz (f i j) 1024) (sy : ∀ z ∈ y, Sz z 65536) :
    CallC Tryz.prog 121 [slM (mat n c f), slZ y] ⟨[], .tup [(false, [.p (.sl (ls fZ (apZ n c f y)))]), (false, [.p (.raw (.bool true))])]⟩ := by
  have hS := Shape_C (mat n c f)
  rw [shT_yes (mat_ShP f hn1 hn hc1 hc), mat_len, mat_head f hn1] at hS
  have hml := mat_len n c f
  refine callC_of Tryz.func121 rfl (by kernel_rfl) ?_; rw [Tryz.ntmps121]
  (refine WpA_sreg [] [] (by simp) fun K hK => ?_; simp (disch := omega) only [kc, prep1, slM, slZ, Nat.reduceAdd, List.replicate, ofConst, Value.oneCell']; (with_reducible refine hK _ ?_))
  (refine WpA_sreg [⟨1, _, _, _, hS⟩] [] (by simp) fun K hK => ?_; simp (disch := omega) only [kc, slM, CItem.a, prep1, Nat.reduceAdd, opS_call, newS, effA, List.find?_cons, evAll, norm, CallRes.plain, rawTV, rawAV, normOk, noRefTV, noRefAV, renTV, renAV, opS_extract, effM]; (with_reducible refine hK _ ?_))
  (refine WpA_seq (WpA_sreg [] [] (by simp) fun K hK => ?_); simp (disch := omega) only [kc, prep1, Nat.reduceAdd, opS_un, effM, evUn, stS_guard, opS_len, effR, ty_slice122, ls_len, evBin, decT, ifT, opS_pick]; (with_reducible refine hK _ ?_))
  refine WpA_cond rfl (fun h => by simp at h <;> omega) (fun _ => WpA_skip ?_)
  show WpA _ _ _ _
  (refine WpA_sreg [] [] (by simp) fun K hK => ?_; simp (disch := omega) only [kc, prep1, ofConst, Value.oneCell']; (with_reducible refine hK _ ?_))
  (refine WpA_seq (WpA_sreg [] [] (by simp) fun K hK => ?_); simp (disch := omega) only [kc, prep1, Nat.reduceAdd, opS_len, effR, ty_slice50, ls_len, hml, ofConst, Value.oneCell']; (with_reducible refine hK _ ?_))
  refine WpA_forb (G := FiG n) (fun g => ⟨[jk, slZ y, jk, jk, .raw (.slice none 0 0), .raw (.bool false), jk, jk, jk, .one (.sl 37 0 0 g.i), jk, jk, jk, jk, jk, jk, jk, jk, jk, jk, jk, jk, jk, jk, jk, jk, slM (mat n c f), .raw (.int .i64 (n : Int)), .raw (.int .i64 (g.i : Int)), jk, jk, jk, jk, jk, jk, jk, jk, jk, jk, jk], Hm [(37, [⟨79, 2, lc fZ (apZ g.i c f y)⟩])]⟩) (fun g => n - g.i) ⟨0, by omega⟩ ?_ ?_
  · refine (Weak_nil (k := 9) (d := 37) 79 2 (by omega) rfl rfl).trans (Weak_sub ⟨rfl, trivial⟩ ?_)
    simp [wkL, okTV, okAV]
  · rintro ⟨i, hi⟩
    simp only
    by_cases hm : i < n
    · have hrow := mat_get c f hm
      have c1 := Dot_C (rowF c (f i)) y (by rw [rowF_len]; omega) (by rw [rowF_len]; omega) (fun z hz => by
        obtain ⟨j, _, rfl⟩ := List.mem_map.1 hz
        exact (hf i j).mono (by omega)) (fun z hz => (sy z hz).mono (by omega))
      rw [rowF_len] at c1
      have e1 : lc fZ (apZ i c f y) ++ [[.p (.raw (.bool (decide (accZ (rowF c (f i)) y c < 0)))), .p (.sl (ls fU (limbs (accZ (rowF c (f i)) y c).natAbs)))]] = lc fZ (apZ (i + 1) c f y) := by
        rw [lcZ_snoc, apZ, apZ, rowF_snoc i]
      (refine WpA_sreg [] [] (by simp) fun K hK => ?_; simp (disch := omega) only [kc, prep1, slZ, slM, Hm, effM, evBin, decT]; (with_reducible refine hK _ ?_))
      refine WpA_seq (WpA_cond rfl (fun _ => WpA_skip ?_) (fun h => by simp at h <;> omega))
      refine WpA_seq (WpA_block ?_)
      (refine WpA_sreg [] [] (by simp) fun K hK => ?_; simp (disch := omega) only [kc, prep1, Nat.reduceAdd, opS_indexAddr, effR, natOf_pos, ty_slice50, ls_get, hrow, fR, ty_sz122, packT, ty_agg122]; (with_reducible refine hK _ ?_))
      ((refine WpA_lreg [⟨3, _, _, _, c1⟩] [] (by simp) fun K hK => ?_); simp (disch := omega) only [kc, slZ, tZ, CItem.a, prep1, Nat.reduceAdd, opS_call, newS, effA, List.find?_cons, evAll, norm, CallRes.plain, rawTV, rawAV, normOk, noRefTV, noRefAV, renTV, renAV, opS_buildSlice, ty_slice122, ty_zero79, ty_sz79, litA, cellsOf, isPure, Nat.reduceMul, Nat.reduceLeDiff, List.contains_nil, unP, ifT, opS_append, appS, effD, newsOf, ty_by79, lc_allp, lc_len, rowF_len, allcons, allnil, and_true, killO, lc_kill, e1, wrS, killTV, killAV]; (with_reducible refine hK _ ?_))
      show WpA _ _ _ _
      ((refine WpA_lreg [] [] (by simp) fun K hK => ?_); simp (disch := omega) only [kc, prep1, effM, ofConst, Value.oneCell', evBin, wrapI]; (with_reducible refine hK _ ?_))
      refine ⟨⟨i + 1, by omega⟩, by simp only; omega, Weak_sub ⟨rfl, trivial⟩ ?_⟩
      simp [wkL, okTV, okAV]
    · have hin : i = n := by omega
      subst hin
      (refine WpA_sreg [] [] (by simp) fun K hK => ?_; simp (disch := omega) only [kc, prep1, slZ, slM, Hm, effM, evBin, decF]; (with_reducible refine hK _ ?_))
      refine WpA_seq (WpA_cond rfl (fun h => by simp at h <;> omega) (fun _ => WpA_exit ?_))
      show WpA _ _ _ _
      (refine WpA_sreg [] [] (by simp) fun K hK => ?_; simp (disch := omega) only [kc, prep1, Nat.reduceAdd, ofConst, Value.oneCell']; (with_reducible refine hK _ ?_))
      refine WpA_ret ⟨.inr rfl, ret_fz 37 (fzOk_one rfl) ?_ rfl⟩
      have eT : List.take i (apZ i c f y) = apZ i c f y := List.take_of_length_le (by rw [rowF_len]; omega)
      simp (disch := omega) only [kc, resA, Tryz.results121, resL, resOne, fzTV, fzAV, ifT, lc_take, eT, lc_cellF, tvPair]
set_option maxRecDepth 100000 in
set_option maxHeartbeats 8000000 in
theorem Product_C (n : Nat) (f : Nat → Nat → Int) (x y : List Int) (hn1 : 1 ≤ n) (hn : n ≤ 16) (hx : x.length = n) (hy : y.length = n) (hf : ∀ i j : Nat, I64 (f i j)) (ix : ∀ z ∈ x, I64 z) (iy : ∀ z ∈ y, I64 z) :
    CallC Tryz.prog 81 [slI (mat n n f), sl1 x, sl1 y] ⟨[], tZ (accZ x (apZ n n f y) x.length)⟩ := by
  have c1 := Of_C n n f hn1 hn hn1 hn (fun i j _ _ => hf i j)
  have c2 := Column_C y (by omega) iy
  have c3 := Apply_C n n f y hn1 hn hn1 hn hy (fun i j => (hf i j).sz (by omega)) (fun z hz => (iy z hz).sz (by omega))
  have c4 := Column_C x (by omega) ix
  have c5 := Dot_C x (apZ n n f y) (by omega) (by rw [rowF_len]; omega) (fun z hz => (ix z hz).sz (by omega)) (fun z hz => by
    obtain ⟨i, _, rfl⟩ := List.mem_map.1 hz
    have := accZ_sz (b := 2) (c := 2) (getD_sz (x := rowF n (f i)) fun z hz => by
      obtain ⟨j, _, rfl⟩ := List.mem_map.1 hz
      exact (hf i j).sz (by omega)) (getD_sz (x := y) fun z hz => (iy z hz).sz (by omega)) n
    exact this.mono (by omega))
  refine callC_of Tryz.func81 rfl (by kernel_rfl) ?_; rw [Tryz.ntmps81]
  (refine WpA_sreg [] [] (by simp) fun K hK => ?_; simp (disch := omega) only [kc, prep1, slI, sl1, Nat.reduceAdd, List.replicate, opS_alloc, newS, effA, ty_zero79, Value.oneCell', ifT]; (with_reducible refine hK _ ?_))
  (refine WpA_sreg [⟨1, _, _, _, c1⟩, ⟨3, _, _, _, c2⟩, ⟨4, _, _, _, c3⟩] [] (by simp) fun K hK => ?_; simp (disch := omega) only [kc, slI, slM, sl1, slZ, CItem.a, prep1, Nat.reduceAdd, opS_call, newS, effA, List.find?_cons, evAll, norm, CallRes.plain, rawTV, rawAV, normOk, noRefTV, noRefAV, renTV, renAV, Nat.reduceBEq, opS_extract, effM]; (with_reducible refine hK _ ?_))
  (refine WpA_sreg [⟨1, _, _, _, c4⟩, ⟨3, _, _, _, c5⟩] [] (by simp) fun K hK => ?_; simp (disch := omega) only [kc, sl1, slZ, tZ, CItem.a, prep1, Nat.reduceAdd, opS_call, newS, effA, List.find?_cons, evAll, norm, CallRes.plain, rawTV, rawAV, normOk, noRefTV, noRefAV, renTV, renAV, Nat.reduceBEq, opS_store, wrS, effD, ty_sz79, updH, cellsOf, Nat.le_refl, isPure, ifT, putCells, killTV, killAV]; (with_reducible refine hK _ ?_))
  (refine WpA_ret ⟨.inr rfl, ret_now rfl ?_ rfl⟩; simp (disch := omega) only [kc, resA, Tryz.results81, resOne, updH, ifF, packT, ty_sz79, ty_agg79, Nat.reduceAdd, Nat.le_refl, tZ])
abbrev tvI (v : Int) (b : Bool) : TV := .tup [(false, [.p (.raw (.int .i64 v))]), (false, [.p (.raw (.bool b))])]
def wiT (z : Int) : TV := if -4611686018427387904 ≤ z ∧ z ≤ 4611686018427387904 then tvI z true else tvI 0 false
set_option maxRecDepth 100000 in
set_option maxHeartbeats 8000000 in
theorem within_C (z : Int) (hz : Bg z) : CallC Tryz.prog 80 [tZ z] ⟨[], wiT z⟩ := by
  have hI := Int64_C z hz
  by_cases h : -9223372036854775808 ≤ z ∧ z ≤ 9223372036854775807
  · rw [i64R, if_pos h] at hI
    obtain ⟨h1, h2⟩ := h
    by_cases h3 : z < -4611686018427387904
    · rw [show wiT z = tvI 0 false from if_neg (by omega)]
      refine callC_of Tryz.func80 rfl (by kernel_rfl) ?_; rw [Tryz.ntmps80]
      (refine WpA_sreg [] [] (by simp) fun K hK => ?_; simp (disch := omega) only [kc, prep1, Nat.reduceAdd, tZ, decT, List.replicate, opS_box, newS, effA, cellsOf, isPure, ifT, ofConst, Value.oneCell']; (with_reducible refine hK _ ?_))
      (refine WpA_sreg [⟨1, _, _, _, hI⟩] [] (by simp) fun K hK => ?_; simp (disch := omega) only [kc, tZ, decT, CItem.a, prep1, Nat.reduceAdd, effR, updH, packT, ty_sz79, ty_agg79, Nat.le_refl, opS_call, newS, effA, List.find?_cons, evAll, norm, CallRes.plain, rawTV, rawAV, normOk, isPure, noRefTV, noRefAV, renTV, renAV, opS_extract, effM]; (with_reducible refine hK _ ?_))
      (refine WpA_seq (WpA_sreg [] [] (by simp) fun K hK => ?_); simp (disch := omega) only [kc, prep1, Nat.reduceAdd, opS_un, effM, evUn, stS_guard, ofConst, Value.oneCell', ifT, evBin, decT, opS_pick, reduceCtorEq, Option.map_none]; (with_reducible refine hK _ ?_))
      refine WpA_cond rfl (fun _ => ?_) (fun h => by simp at h <;> omega)
      (refine WpA_sreg [] [] (by simp) fun K hK => ?_; simp (disch := omega) only [kc, prep1, ofConst, Value.oneCell']; (with_reducible refine hK _ ?_))
      (refine WpA_ret ⟨.inr rfl, ret_now rfl ?_ rfl⟩; simp (disch := omega) only [resA, Tryz.results80, resL, resOne, List.getElem?_cons_succ, List.getElem?_cons_zero, Option.bind_some, tvPair, Option.map_some])
    by_cases h4 : 4611686018427387904 < z
    · rw [show wiT z = tvI 0 false from if_neg (by omega)]
      refine callC_of Tryz.func80 rfl (by kernel_rfl) ?_; rw [Tryz.ntmps80]
      (refine WpA_sreg [] [] (by simp) fun K hK => ?_; simp (disch := omega) only [kc, prep1, Nat.reduceAdd, tZ, decF, List.replicate, opS_box, newS, effA, cellsOf, isPure, ifT, ofConst, Value.oneCell']; (with_reducible refine hK _ ?_))
      (refine WpA_sreg [⟨1, _, _, _, hI⟩] [] (by simp) fun K hK => ?_; simp (disch := omega) only [kc, tZ, decF, CItem.a, prep1, Nat.reduceAdd, effR, updH, packT, ty_sz79, ty_agg79, Nat.le_refl, opS_call, newS, effA, List.find?_cons, evAll, norm, CallRes.plain, rawTV, rawAV, normOk, isPure, noRefTV, noRefAV, renTV, renAV, opS_extract, effM]; (with_reducible refine hK _ ?_))
      (refine WpA_seq (WpA_sreg [] [] (by simp) fun K hK => ?_); simp (disch := omega) only [kc, prep1, Nat.reduceAdd, opS_un, effM, evUn, stS_guard, ofConst, Value.oneCell', ifT, evBin, decF, opS_pick, decT]; (with_reducible refine hK _ ?_))
      refine WpA_cond rfl (fun _ => ?_) (fun h => by simp at h <;> omega)
      (refine WpA_sreg [] [] (by simp) fun K hK => ?_; simp (disch := omega) only [kc, prep1, ofConst, Value.oneCell']; (with_reducible refine hK _ ?_))
      (refine WpA_ret ⟨.inr rfl, ret_now rfl ?_ rfl⟩; simp (disch := omega) only [resA, Tryz.results80, resL, resOne, List.getElem?_cons_succ, List.getElem?_cons_zero, Option.bind_some, tvPair, Option.map_some])
    rw [show wiT z = tvI z true from if_pos (by omega)]
    refine callC_of Tryz.func80 rfl (by kernel_rfl) ?_; rw [Tryz.ntmps80]
    (refine WpA_sreg [] [] (by simp) fun K hK => ?_; simp (disch := omega) only [kc, prep1, Nat.reduceAdd, tZ, List.replicate, opS_box, newS, effA, cellsOf, isPure, ifT, ofConst, Value.oneCell']; (with_reducible refine hK _ ?_))
    (refine WpA_sreg [⟨1, _, _, _, hI⟩] [] (by simp) fun K hK => ?_; simp (disch := omega) only [kc, tZ, CItem.a, prep1, Nat.reduceAdd, effR, updH, packT, ty_sz79, ty_agg79, Nat.le_refl, opS_call, newS, effA, List.find?_cons, evAll, norm, CallRes.plain, rawTV, rawAV, normOk, isPure, noRefTV, noRefAV, renTV, renAV, opS_extract, effM]; (with_reducible refine hK _ ?_))
    (refine WpA_seq (WpA_sreg [] [] (by simp) fun K hK => ?_); simp (disch := omega) only [kc, prep1, Nat.reduceAdd, opS_un, effM, evUn, stS_guard, ofConst, Value.oneCell', ifT, evBin, decF, opS_pick]; (with_reducible refine hK _ ?_))
    refine WpA_cond rfl (fun h => by simp at h <;> omega) (fun _ => WpA_skip ?_)
    show WpA _ _ _ _
    (refine WpA_sreg [] [] (by simp) fun K hK => ?_; simp (disch := omega) only [kc, prep1, Nat.reduceAdd, ofConst, Value.oneCell']; (with_reducible refine hK _ ?_))
    (refine WpA_ret ⟨.inr rfl, ret_now rfl ?_ rfl⟩; simp (disch := omega) only [resA, Tryz.results80, resL, resOne, List.getElem?_cons_succ, List.getElem?_cons_zero, Option.bind_some, tvPair, Option.map_some])
  · rw [i64R, if_neg h] at hI
    rw [show wiT z = tvI 0 false from if_neg (by omega)]
    refine callC_of Tryz.func80 rfl (by kernel_rfl) ?_; rw [Tryz.ntmps80]
    (refine WpA_sreg [] [] (by simp) fun K hK => ?_; simp (disch := omega) only [kc, prep1, Nat.reduceAdd, tZ, List.replicate, opS_box, newS, effA, cellsOf, isPure, ifT, ofConst, Value.oneCell']; (with_reducible refine hK _ ?_))
    (refine WpA_sreg [⟨1, _, _, _, hI⟩] [] (by simp) fun K hK => ?_; simp (disch := omega) only [kc, tZ, CItem.a, prep1, Nat.reduceAdd, effR, updH, packT, ty_sz79, ty_agg79, Nat.le_refl, opS_call, newS, effA, List.find?_cons, evAll, norm, CallRes.plain, rawTV, rawAV, normOk, isPure, noRefTV, noRefAV, renTV, renAV, opS_extract, effM]; (with_reducible refine hK _ ?_))
    (refine WpA_seq (WpA_sreg [] [] (by simp) fun K hK => ?_); simp (disch := omega) only [kc, prep1, Nat.reduceAdd, opS_un, effM, evUn, Bool.not_false, stS_guard, reduceCtorEq, ofConst, Value.oneCell', Option.map_none, opS_pick]; (with_reducible refine hK _ ?_))
    refine WpA_cond rfl (fun _ => ?_) (fun h => by simp at h <;> omega)
    (refine WpA_sreg [] [] (by simp) fun K hK => ?_; simp (disch := omega) only [kc, prep1, ofConst, Value.oneCell']; (with_reducible refine hK _ ?_))
    (refine WpA_ret ⟨.inr rfl, ret_now rfl ?_ rfl⟩; simp (disch := omega) only [resA, Tryz.results80, resL, resOne, List.getElem?_cons_succ, List.getElem?_cons_zero, Option.bind_some, tvPair, Option.map_some])
def innT (M : List (List Int)) (x y : List Int) : TV := if validM M x = true ∧ FitB M.length y = true then wiT (accZ x (applyM M y) x.length) else tvI 0 false
theorem applyM_red {n : Nat} {f : Nat → Nat → Int} {y : List Int} (hr : isReducedM (mat n n f) = true) (hy : InB y = true) : applyM (mat n n f) y = apZ n n f y := by
  have hs := isReducedM_small hr
  have h8 := hs.2.1
  rw [mat_len] at h8
  apply List.ext_getElem?
  intro i
  rw [applyM, List.getElem?_map]
  by_cases hi : i < n
  · rw [mat_get _ _ hi, rowF_get _ hi]
    simp only [Option.map_some, rowF_len]
    exact congrArg some (accW_exact (hs.row_bd (mat_get _ _ hi)) (fun i z hz => InB_bounds hy hz) n h8).1
  · rw [List.getElem?_eq_none (by rw [mat_len]; omega), List.getElem?_eq_none (by rw [rowF_len]; omega)]; rfl
theorem InB_I64 {x : List Int} (h : InB x = true) : ∀ z ∈ x, I64 z := fun z hz => by
  obtain ⟨i, hi⟩ := List.mem_iff_getElem?.1 hz
  have := InB_bounds h hi
  exact ⟨by omega, by omega⟩
set_option maxRecDepth 100000 in
set_option maxHeartbeats 8000000 in
theorem Inner_C (M : List (List Int)) (x y : List Int) (hM : MI M) : CallC Tryz.prog 41 [slI M, sl1 x, sl1 y] ⟨[], innT M x y⟩ := by
  have hx := Valid_C M x hM
  have hy := Valid_C M y hM
  cases h1 : validM M x with
  | false =>
    rw [h1] at hx
    rw [show innT M x y = tvI 0 false from if_neg (by simp [h1])]
    refine callC_of Tryz.func41 rfl (by kernel_rfl) ?_; rw [Tryz.ntmps41]
    (refine WpA_sreg [] [] (by simp) fun K hK => ?_; simp (disch := omega) only [kc, prep1, slI, sl1, Nat.reduceAdd, List.replicate, ofConst, Value.oneCell']; (with_reducible refine hK _ ?_))
    (refine WpA_seq (WpA_sreg [⟨2, _, _, _, hx⟩] [] (by simp) fun K hK => ?_); simp (disch := omega) only [kc, slI, sl1, CItem.a, prep1, Nat.reduceAdd, opS_call, newS, effA, List.find?_cons, evAll, norm, CallRes.plain, rawTV, rawAV, normOk, noRefTV, noRefAV, renTV, renAV, opS_un, effM, evUn, Bool.not_false, stS_guard, reduceCtorEq, Nat.reduceBEq, List.find?_nil, Option.map_none, opS_pick, ofConst, Value.oneCell']; (with_reducible refine hK _ ?_))
    refine WpA_cond rfl (fun _ => ?_) (fun h => by simp at h)
    (refine WpA_sreg [] [] (by simp) fun K hK => ?_; simp (disch := omega) only [kc, prep1, ofConst, Value.oneCell']; (with_reducible refine hK _ ?_))
    (refine WpA_ret ⟨.inr rfl, ret_now rfl ?_ rfl⟩; simp (disch := omega) only [resA, Tryz.results41, resL, resOne, List.getElem?_cons_succ, List.getElem?_cons_zero, Option.bind_some, tvPair, Option.map_some])
  | true =>
    rw [h1] at hx
    have h1' := h1
    unfold validM at h1'
    rw [Bool.and_eq_true] at h1'
    obtain ⟨hr, hfx⟩ := h1'
    have hvy : validM M y = FitB M.length y := by unfold validM; rw [hr, Bool.true_and]
    rw [hvy] at hy
    cases h2 : FitB M.length y with
    | false =>
      rw [h2] at hy
      rw [show innT M x y = tvI 0 false from if_neg (by simp [h2])]
      refine callC_of Tryz.func41 rfl (by kernel_rfl) ?_; rw [Tryz.ntmps41]
      (refine WpA_sreg [] [] (by simp) fun K hK => ?_; simp (disch := omega) only [kc, prep1, slI, sl1, Nat.reduceAdd, List.replicate, ofConst, Value.oneCell']; (with_reducible refine hK _ ?_))
      (refine WpA_seq (WpA_sreg [⟨2, _, _, _, hx⟩, ⟨7, _, _, _, hy⟩] [] (by simp) fun K hK => ?_); simp (disch := omega) only [kc, slI, sl1, CItem.a, prep1, Nat.reduceAdd, opS_call, newS, effA, List.find?_cons, evAll, norm, CallRes.plain, rawTV, rawAV, normOk, noRefTV, noRefAV, renTV, renAV, opS_un, effM, evUn, stS_guard, Nat.reduceBEq, ifT, Bool.not_false, opS_pick]; (with_reducible refine hK _ ?_))
      refine WpA_cond rfl (fun _ => ?_) (fun h => by simp at h)
      (refine WpA_sreg [] [] (by simp) fun K hK => ?_; simp (disch := omega) only [kc, prep1, ofConst, Value.oneCell']; (with_reducible refine hK _ ?_))
      (refine WpA_ret ⟨.inr rfl, ret_now rfl ?_ rfl⟩; simp (disch := omega) only [resA, Tryz.results41, resL, resOne, List.getElem?_cons_succ, List.getElem?_cons_zero, Option.bind_some, tvPair, Option.map_some])
    | true =>
      rw [h2] at hy
      rw [show innT M x y = wiT (accZ x (applyM M y) x.length) from if_pos ⟨h1, h2⟩]
      obtain ⟨g1, g8, g3, _⟩ := (isReducedM_iff M).1 hr
      rw [FitB_iff] at hfx h2
      obtain ⟨n, f, rfl, hn1, hn, hf⟩ : ∃ n f, M = mat n n f ∧ 1 ≤ n ∧ n ≤ 8 ∧ ∀ i j : Nat, I64 (f i j) := by
        refine ⟨M.length, ent M, mat_ent fun r hr => ?_, g1, g8, fun i j => hM.ent i j⟩
        obtain ⟨i, hi⟩ := List.mem_iff_getElem?.1 hr
        have := g3 i (List.getElem?_eq_some_iff.1 hi).1
        rwa [List.getD_eq_getElem?_getD, hi] at this
      rw [mat_len] at hfx h2
      rw [applyM_red hr h2.2]
      have ix := InB_I64 hfx.2
      have iy := InB_I64 h2.2
      have c1 := Product_C n f x y hn1 (by omega) hfx.1 h2.1 hf ix iy
      have hsz : Sz (accZ x (apZ n n f y) x.length) (2 + 65536 + x.length) := accZ_sz (getD_sz fun z hz => (ix z hz).sz (by omega)) (getD_sz fun z hz => by
        obtain ⟨i, _, rfl⟩ := List.mem_map.1 hz
        have := accZ_sz (b := 2) (c := 2) (getD_sz (x := rowF n (f i)) fun z hz => by
          obtain ⟨j, _, rfl⟩ := List.mem_map.1 hz
          exact (hf i j).sz (by omega)) (getD_sz (x := y) fun z hz => (iy z hz).sz (by omega)) n
        exact this.mono (by omega)) x.length
      have c2 := within_C (accZ x (apZ n n f y) x.length) (hsz.mono (by omega))
      generalize accZ x (apZ n n f y) x.length = v at *
      by_cases hv : -4611686018427387904 ≤ v ∧ v ≤ 4611686018427387904
      · rw [show wiT v = tvI v true from if_pos hv] at c2 ⊢
        refine callC_of Tryz.func41 rfl (by kernel_rfl) ?_; rw [Tryz.ntmps41]
        (refine WpA_sreg [] [] (by simp) fun K hK => ?_; simp (disch := omega) only [kc, prep1, slI, sl1, Nat.reduceAdd, List.replicate, ofConst, Value.oneCell']; (with_reducible refine hK _ ?_))
        (refine WpA_seq (WpA_sreg [⟨2, _, _, _, hx⟩, ⟨7, _, _, _, hy⟩] [] (by simp) fun K hK => ?_); simp (disch := omega) only [kc, slI, sl1, CItem.a, prep1, Nat.reduceAdd, opS_call, newS, effA, List.find?_cons, evAll, norm, CallRes.plain, rawTV, rawAV, normOk, noRefTV, noRefAV, renTV, renAV, opS_un, effM, evUn, stS_guard, Nat.reduceBEq, ifT, opS_pick]; (with_reducible refine hK _ ?_))
        refine WpA_cond rfl (fun h => by simp at h) (fun _ => WpA_skip ?_)
        show WpA _ _ _ _
        (refine WpA_sreg [⟨3, _, _, _, c1⟩, ⟨4, _, _, _, c2⟩] [] (by simp) fun K hK => ?_; simp (disch := omega) only [kc, slI, sl1, tZ, CItem.a, prep1, Nat.reduceAdd, opS_call, newS, effA, List.find?_cons, evAll, norm, CallRes.plain, rawTV, rawAV, normOk, noRefTV, noRefAV, renTV, renAV, Nat.reduceBEq, isPure, opS_extract, effM]; (with_reducible refine hK _ ?_))
        (refine WpA_ret ⟨.inr rfl, ret_now rfl ?_ rfl⟩; simp (disch := omega) only [resA, Tryz.results41, resL, resOne, List.getElem?_cons_succ, List.getElem?_cons_zero, Option.bind_some, tvPair, Option.map_some])
      · rw [show wiT v = tvI 0 false from if_neg hv] at c2 ⊢
        refine callC_of Tryz.func41 rfl (by kernel_rfl) ?_; rw [Tryz.ntmps41]
        (refine WpA_sreg [] [] (by simp) fun K hK => ?_; simp (disch := omega) only [kc, prep1, slI, sl1, Nat.reduceAdd, List.replicate, ofConst, Value.oneCell']; (with_reducible refine hK _ ?_))
        (refine WpA_seq (WpA_sreg [⟨2, _, _, _, hx⟩, ⟨7, _, _, _, hy⟩] [] (by simp) fun K hK => ?_); simp (disch := omega) only [kc, slI, sl1, CItem.a, prep1, Nat.reduceAdd, opS_call, newS, effA, List.find?_cons, evAll, norm, CallRes.plain, rawTV, rawAV, normOk, noRefTV, noRefAV, renTV, renAV, opS_un, effM, evUn, stS_guard, Nat.reduceBEq, ifT, opS_pick]; (with_reducible refine hK _ ?_))
        refine WpA_cond rfl (fun h => by simp at h) (fun _ => WpA_skip ?_)
        show WpA _ _ _ _
        (refine WpA_sreg [⟨3, _, _, _, c1⟩, ⟨4, _, _, _, c2⟩] [] (by simp) fun K hK => ?_; simp (disch := omega) only [kc, slI, sl1, tZ, CItem.a, prep1, Nat.reduceAdd, opS_call, newS, effA, List.find?_cons, evAll, norm, CallRes.plain, rawTV, rawAV, normOk, noRefTV, noRefAV, renTV, renAV, Nat.reduceBEq, isPure, opS_extract, effM]; (with_reducible refine hK _ ?_))
        (refine WpA_ret ⟨.inr rfl, ret_now rfl ?_ rfl⟩; simp (disch := omega) only [resA, Tryz.results41, resL, resOne, List.getElem?_cons_succ, List.getElem?_cons_zero, Option.bind_some, tvPair, Option.map_some])
theorem innT_cases (M : List (List Int)) (x y : List Int) : ∃ v b, innT M x y = tvI v b ∧ innerV M x y = .tuple #[.int .i64 v, .bool b] := by
  unfold innT innerV
  split
  · unfold wiT dotV
    split
    · exact ⟨_, _, rfl, rfl⟩
    · exact ⟨_, _, rfl, rfl⟩
  · exact ⟨_, _, rfl, rfl⟩
set_option maxRecDepth 100000 in
set_option maxHeartbeats 8000000 in
theorem Norm_C (M : List (List Int)) (x : List Int) (hM : MI M) : CallC Tryz.prog 15 [slI M, sl1 x] ⟨[], innT M x x⟩ := by
  have hI := Inner_C M x x hM
  obtain ⟨v, b, e, _⟩ := innT_cases M x x
  rw [e] at hI ⊢
  refine callC_of Tryz.func15 rfl (by kernel_rfl) ?_; rw [Tryz.ntmps15]
  (refine WpA_sreg [] [] (by simp) fun K hK => ?_; simp (disch := omega) only [kc, prep1, slI, sl1, Nat.reduceAdd, List.replicate, ofConst, Value.oneCell']; (with_reducible refine hK _ ?_))
  (refine WpA_sreg [⟨3, _, _, _, hI⟩] [] (by simp) fun K hK => ?_; simp (disch := omega) only [kc, slI, sl1, CItem.a, prep1, Nat.reduceAdd, opS_call, newS, effA, List.find?_cons, evAll, norm, CallRes.plain, rawTV, rawAV, normOk, noRefTV, noRefAV, renTV, renAV, opS_extract, effM]; (with_reducible refine hK _ ?_))
  (refine WpA_ret ⟨.inr rfl, ret_now rfl ?_ rfl⟩; simp (disch := omega) only [resA, Tryz.results15, resL, resOne, List.getElem?_cons_succ, List.getElem?_cons_zero, Option.bind_some, tvPair, Option.map_some])
end Go.Proofs.YtobnpabndpmabaaGreat
