/-
  Part 11 of a proof (walks and plain facts).
-/
import Derived.Test.YtennjcjjegbhgaaGreatP09
set_option linter.all false
namespace Go.Proofs.YtennjcjjegbhgaaGreat
open Go.RowKit
theorem sz_lt {z : Int} {k : Nat} (h : z.natAbs < 4294967296) (hk : 1 ≤ k) : Sz z k := by
  have : Sz z 1 := by unfold Sz; simpa using h
  exact this.mono hk
theorem sz_zero (k : Nat) : Sz 0 k := by unfold Sz; exact Nat.pow_pos (by omega)
theorem swp_sz {n p k b : Nat} {g : Nat → Nat → Int} (hp : p < n) (hk : k < n) (h : ∀ i j, i < n → j < n → Sz (g i j) b) : ∀ i j, i < n → j < n → Sz (swp p k g i j) b := fun i j hi hj => by
  unfold swp
  split
  · exact h k j hk hj
  · split
    · exact h p j hp hj
    · exact h i j hi hj
theorem nxt_sz {n k b : Nat} {g : Nat → Nat → Int} (last : Int) (hk : k < n) (h : ∀ i j, i < n → j < n → Sz (g i j) b) : ∀ i j, i < n → j < n → Sz (nxt k last g i j) (2 * b + 1) := fun x y hx hy => by
  unfold nxt
  split
  · exact ((((h k k hk hk).mul (h x y hx hy)).sub ((h x k hx hk).mul (h k y hk hy))).ediv last).mono (by omega)
  · exact (h x y hx hy).mono (by omega)
theorem detG_sz {n : Nat} (hn : n ≤ 16) : ∀ m k g last neg b, n - k = m → k ≤ n → (∀ i j, i < n → j < n → Sz (g i j) b) → Sz last b → b + 1 ≤ 1025 * 2 ^ k → Sz (detG n k g last neg) 67174400
  | 0, k, g, last, neg, b, hm, hk, hg, hl, hb => by
    have h2k := pow_bound (k := k) (by omega)
    rw [detG, if_neg (by omega)]
    split
    · exact hl.neg.mono (by omega)
    · exact hl.mono (by omega)
  | m + 1, k, g, last, neg, b, hm, hk, hg, hl, hb => by
    rw [detG, if_pos (by omega)]
    split
    · exact sz_zero _
    · rename_i hp
      have hpl := piv_le (f := g) (n := n) (k := k) (n - k) k rfl
      have hs := swp_sz (p := piv g n k k) (k := k) (by omega) (by omega) hg
      exact detG_sz hn m (k + 1) _ _ _ (2 * b + 1) (by omega) (by omega) (nxt_sz last (by omega) hs) ((hs k k (by omega) (by omega)).mono (by omega)) (by rw [Nat.pow_succ]; omega)
theorem detF_sz {n : Nat} {f : Nat → Nat → Int} (hn : n ≤ 16) (hf : ∀ i j, i < n → j < n → Sz (f i j) 1024) : Sz (detF n f) 67174400 :=
  detG_sz hn n 0 f 1 false 1024 rfl (by omega) hf (sz_one (by omega)) (by omega)
theorem mat_head {n c : Nat} (f : Nat → Nat → Int) (h : 1 ≤ n) : ((mat n c f).headD []).length = c := by
  have := headD_at (M := mat n c f) (by rw [mat_len]; omega)
  rw [mat_get _ _ (by omega)] at this
  injection this with this
  rw [← this, rowF_len]
theorem mat_ShP {n c : Nat} (f : Nat → Nat → Int) (hn1 : 1 ≤ n) (hn : n ≤ 16) (hc1 : 1 ≤ c) (hc : c ≤ 16) : ShP (mat n c f) := by
  refine ⟨by rw [mat_len]; omega, by rw [mat_len]; omega, fun r hr => ?_⟩
  obtain ⟨i, hi⟩ := List.mem_iff_getElem?.1 hr
  have hin : i < n := by
    have := (List.getElem?_eq_some_iff.1 hi).1
    rwa [mat_len] at this
  rw [mat_get _ _ hin] at hi
  injection hi with hi
  rw [← hi, rOk, rowF_len, mat_head f hn1]
  omega
theorem ShP_mat {M : List (List Int)} (h : ShP M) : M = mat M.length (M.headD []).length (ent M) := mat_ent fun r hr => (h.2.2 r hr).2.2
theorem sqT_yes {n : Nat} (f : Nat → Nat → Int) (hn1 : 1 ≤ n) (hn : n ≤ 16) : sqT (mat n n f) = .tup [(false, [.p (.raw (.int .i64 (n : Int)))]), (false, [.p (.raw (.bool true))])] := by
  have h : SqP (mat n n f) := ⟨mat_ShP f hn1 hn hn1 hn, by rw [mat_len, mat_head f hn1]⟩
  unfold sqT; rw [if_pos h, mat_len]
theorem sqT_no {n c : Nat} (f : Nat → Nat → Int) (hn1 : 1 ≤ n) (h : n ≠ c) : sqT (mat n c f) = .tup [(false, [.p (.raw (.int .i64 0))]), (false, [.p (.raw (.bool false))])] := by
  unfold sqT; rw [if_neg]
  intro hs
  have := hs.2
  rw [mat_len, mat_head f hn1] at this
  exact h this
abbrev ldF (n : Nat) (f : Nat → Nat → Int) : List Int := rowF n fun k => detF (k + 1) f
def ldT (n : Nat) (f : Nat → Nat → Int) : TV := .tup [(false, [.p (.sl (ls fZ (ldF n f)))]), (false, [.p (.raw (.bool true))])]
theorem sel_lead (k : Nat) (f : Nat → Nat → Int) : ((List.range (k + 1)).map fun i => (List.range (k + 1)).map (f i)) = mat (k + 1) (k + 1) f := rfl
set_option maxRecDepth 100000 in
set_option maxHeartbeats 8000000 in
theorem Leading_C (n : Nat) (f : Nat → Nat → Int) (hn1 : 1 ≤ n) (hn : n ≤ 16) (hf : ∀ i j, i < n → j < n → Sz (f i j) 1024) : CallC Tryz.prog 119 [slM (mat n n f)] ⟨[], ldT n f⟩ := by
  have hSq := Square_C (mat n n f)
  rw [sqT_yes f hn1 hn] at hSq
  refine callC_of Tryz.func119 rfl (by kernel_rfl) ?_; rw [Tryz.ntmps119]
  (refine WpA_sreg [] [] (by simp) fun K hK => ?_; simp (disch := omega) only [kc, prep1, slM, List.replicate, ofConst, Value.oneCell']; (with_reducible refine hK _ ?_))
  (refine WpA_sreg [⟨1, _, _, _, hSq⟩] [] (by simp) fun K hK => ?_; simp (disch := omega) only [kc, slM, CItem.a, prep1, Nat.reduceAdd, opS_call, newS, effA, List.find?_cons, evAll, norm, CallRes.plain, rawTV, rawAV, normOk, noRefTV, noRefAV, renTV, renAV, opS_extract, effM]; (with_reducible refine hK _ ?_))
  (refine WpA_seq (WpA_sreg [] [] (by simp) fun K hK => ?_); simp (disch := omega) only [kc, prep1, opS_un, effM, evUn]; (with_reducible refine hK _ ?_))
  refine WpA_cond rfl (fun h => by simp at h) (fun _ => WpA_skip ?_)
  show WpA _ _ _ _
  (refine WpA_sreg [] [] (by simp) fun K hK => ?_; simp (disch := omega) only [kc, prep1, ofConst, Value.oneCell']; (with_reducible refine hK _ ?_))
  (refine WpA_seq (WpA_sreg [] [] (by simp) fun K hK => ?_); simp (disch := omega) only [kc, prep1, ofConst, Value.oneCell']; (with_reducible refine hK _ ?_))
  refine WpA_forb (G := FiG n) (fun g => ⟨[slM (mat n n f), jk, .raw (.slice none 0 0), .raw (.bool false), .raw (.int .i64 (n : Int)), jk, .one (.sl 31 0 0 g.i), .raw (.int .i64 (g.i : Int)), jk, jk, jk, jk, jk, jk, jk, jk, jk, jk, jk, jk, jk, jk, jk, jk, jk, jk, jk, jk, jk, jk, jk, jk, jk], Hm [(31, [⟨51, 2, lc fZ (ldF g.i f)⟩])]⟩) (fun g => n - g.i) ⟨0, by omega⟩ ?_ ?_
  · refine (Weak_nil (k := 6) (d := 31) 51 2 (by omega) rfl rfl).trans (Weak_sub ⟨rfl, trivial⟩ ?_)
    simp [wkL, okTV, okAV]
  · rintro ⟨k, hk⟩
    simp only
    by_cases hm : k < n
    · have c1 := first_C k k (by omega) (by omega)
      rw [← List.range_succ] at c1
      have c2 := Select_C n n f (List.range (k + 1)) (List.range (k + 1)) hn hn (fun x hx => by have := List.mem_range.1 hx; omega) (fun x hx => by have := List.mem_range.1 hx; omega) (by simp; omega) (by simp; omega)
      rw [sel_lead] at c2
      have c3 := Determinant_C (k + 1) f (by omega) (by omega) (fun i j hi hj => hf i j (by omega) (by omega))
      have e1 : lc fZ (ldF k f) ++ [[.p (.raw (.bool (decide (detF (k + 1) f < 0)))), .p (.sl (ls fU (limbs (detF (k + 1) f).natAbs)))]] = lc fZ (ldF (k + 1) f) := by
        rw [lcZ_snoc, ldF, ldF, rowF_snoc k]
      (refine WpA_seq (WpA_sreg [] [] (by simp) fun K hK => ?_); simp (disch := omega) only [kc, prep1, Nat.reduceAdd, slM, Hm, effM, evBin, decT]; (with_reducible refine hK _ ?_))
      refine WpA_cond rfl (fun _ => WpA_skip ?_) (fun h => by simp at h <;> omega)
      refine WpA_seq (WpA_block ?_)
      ((refine WpA_lreg [⟨4, _, _, _, c1⟩, ⟨7, _, _, _, c1⟩, ⟨8, _, _, _, c2⟩, ⟨9, _, _, _, c3⟩] [] (by simp) fun K hK => ?_); simp (disch := omega) only [kc, slN, slM, tZ, CItem.a, prep1, Nat.reduceAdd, opS_call, newS, effA, List.find?_cons, evAll, norm, CallRes.plain, rawTV, rawAV, normOk, noRefTV, noRefAV, renTV, renAV, Nat.reduceBEq, opS_buildSlice, ty_slice120, ty_zero51, ty_sz51, litA, cellsOf, isPure, Nat.reduceMul, Nat.reduceLeDiff, List.contains_nil, unP, ifT, opS_append, appS, effD, newsOf, ty_by51, lc_allp, lc_len, rowF_len, allcons, allnil, and_true, killO, lc_kill, e1, wrS, killTV, killAV]; (with_reducible refine hK _ ?_))
      show WpA _ _ _ _
      ((refine WpA_lreg [] [] (by simp) fun K hK => ?_); simp (disch := omega) only [kc, prep1, Nat.reduceAdd, effM, ofConst, Value.oneCell', evBin, wrapI]; (with_reducible refine hK _ ?_))
      refine ⟨⟨k + 1, by omega⟩, by simp only; omega, Weak_sub ⟨rfl, trivial⟩ ?_⟩
      simp [wkL, okTV, okAV]
    · have hkn : k = n := by omega
      subst hkn
      (refine WpA_seq (WpA_sreg [] [] (by simp) fun K hK => ?_); simp (disch := omega) only [kc, prep1, Nat.reduceAdd, slM, Hm, effM, evBin, decF]; (with_reducible refine hK _ ?_))
      refine WpA_cond rfl (fun h => by simp at h <;> omega) (fun _ => WpA_exit ?_)
      show WpA _ _ _ _
      (refine WpA_sreg [] [] (by simp) fun K hK => ?_; simp (disch := omega) only [kc, prep1, Nat.reduceAdd, ofConst, Value.oneCell']; (with_reducible refine hK _ ?_))
      refine WpA_ret ⟨.inr rfl, ret_fz 31 (fzOk_one rfl) ?_ rfl⟩
      have eT : List.take k (ldF k f) = ldF k f := List.take_of_length_le (by rw [rowF_len]; omega)
      simp (disch := omega) only [kc, resA, Tryz.results119, resL, resOne, fzTV, fzAV, ifT, lc_take, eT, lc_cellF, tvPair, ldT]
structure SyG (n : Nat) (f : Nat → Nat → Int) where
  i : Nat
  hi : i ≤ n
  ok : ∀ a, a < i → ∀ b, b < a → f a b = f b a
structure SyI (n i : Nat) (f : Nat → Nat → Int) where
  j : Nat
  hj : j ≤ i
  ok : ∀ b, b < j → f i b = f b i
theorem cmpZ_self (a : Int) : cmpZ a a = 0 := by simp [cmpZ]
theorem cmpZ_ne' {a b : Int} (h : a ≠ b) : cmpZ a b ≠ 0 := by unfold cmpZ; split <;> (try split) <;> omega
set_option maxRecDepth 100000 in
set_option maxHeartbeats 8000000 in
theorem Symmetric_C (n : Nat) (f : Nat → Nat → Int) (hn : n ≤ 16) (hf : ∀ i j, i < n → j < n → Sz (f i j) 1024) (r : Bool) (hr : r = true ↔ SymF f n) : CallC Tryz.prog 115 [slM (mat n n f)] ⟨[], .raw (.bool r)⟩ := by
  have hml := mat_len n n f
  refine callC_of Tryz.func115 rfl (by kernel_rfl) ?_; rw [Tryz.ntmps115]
  (refine WpA_sreg [] [] (by simp) fun K hK => ?_; simp (disch := omega) only [kc, prep1, slM, List.replicate, ofConst, Value.oneCell']; (with_reducible refine hK _ ?_))
  (refine WpA_seq (WpA_sreg [] [] (by simp) fun K hK => ?_); simp (disch := omega) only [kc, prep1, Nat.reduceAdd, opS_len, effR, ty_slice62, ls_len, hml, ofConst, Value.oneCell']; (with_reducible refine hK _ ?_))
  refine WpA_forb (G := SyG n f) (fun g => ⟨[slM (mat n n f), jk, .raw (.bool false), jk, jk, jk, .raw (.int .i64 (n : Int)), .raw (.int .i64 (g.i : Int)), jk, jk, jk, jk, jk, jk, jk, jk, jk, jk, jk, jk, jk, jk, jk, jk, jk, jk, jk, jk, jk, jk, jk, jk], Hm []⟩) (fun g => n - g.i) ⟨0, by omega, fun a ha => by omega⟩ ?_ ?_
  · refine Weak_sub trivial ?_
    simp [wkL, okTV, okAV]
  · rintro ⟨i, hi, ok⟩
    simp only
    by_cases hm : i < n
    · (refine WpA_sreg [] [] (by simp) fun K hK => ?_; simp (disch := omega) only [kc, prep1, slM, Hm, effM, evBin, decT]; (with_reducible refine hK _ ?_))
      refine WpA_seq (WpA_cond rfl (fun _ => WpA_skip ?_) (fun h => by simp at h <;> omega))
      refine WpA_seq (WpA_block ?_)
      (refine WpA_sreg [] [] (by simp) fun K hK => ?_; simp (disch := omega) only [kc, prep1]; (with_reducible refine hK _ ?_))
      (refine WpA_sreg [] [] (by simp) fun K hK => ?_; simp (disch := omega) only [kc, prep1, ofConst, Value.oneCell']; (with_reducible refine hK _ ?_))
      refine WpA_forb (G := SyI n i f) (fun g => ⟨[slM (mat n n f), jk, .raw (.bool false), .raw (.int .i64 (i : Int)), .raw (.int .i64 (g.j : Int)), jk, .raw (.int .i64 (n : Int)), .raw (.int .i64 (i : Int)), jk, jk, jk, jk, jk, jk, jk, jk, jk, jk, jk, jk, jk, jk, jk, jk, jk, jk, jk, jk, jk, jk, jk, jk], Hm []⟩) (fun g => i - g.j) ⟨0, by omega, fun a ha => by omega⟩ ?_ ?_
      · refine Weak_sub trivial ?_
        simp [wkL, okTV, okAV]
      · rintro ⟨j, hj, okj⟩
        simp only
        by_cases hm2 : j < i
        · have a1 := mat_get n f hm
          have a2 := mat_get n f (show j < n by omega)
          have a3 := rowF_get (f i) (show j < n by omega)
          have a4 := rowF_get (f j) hm
          have c1 := Cmp_C (f i j) (f j i) ((hf i j hm (by omega)).mono (by omega)) ((hf j i (by omega) hm).mono (by omega))
          by_cases he : f i j = f j i
          · rw [he, cmpZ_self] at c1
            rw [he] at a3
            (refine WpA_seq (WpA_sreg [] [] (by simp) fun K hK => ?_); simp (disch := omega) only [kc, prep1, Nat.reduceAdd, slM, Hm, effM, evBin, decT]; (with_reducible refine hK _ ?_))
            refine WpA_cond rfl (fun _ => WpA_skip ?_) (fun h => by simp at h <;> omega)
            refine WpA_seq (WpA_block ?_)
            (refine WpA_sdraw mixedA [⟨14, _, _, _, c1⟩] [] (by kernel_rfl) (by simp) fun K hK => ?_; simp (disch := omega) only [kc, tZ, CItem.a, prep1, Nat.reduceAdd, opS_indexAddr, effR, natOf_pos, ty_slice62, ls_get, a1, fR, ty_sz120, packT, ty_agg120, ty_slice120, a3, fZ, ty_sz51, ty_agg51, Nat.le_refl, a2, a4, opS_call, newS, effA, List.find?_cons, evAll, norm, CallRes.plain, rawTV, rawAV, normOk, isPure, noRefTV, noRefAV, renTV, renAV, effM, ofConst, Value.oneCell', evBin, decT]; (with_reducible refine hK _ ?_))
            refine WpA_cond rfl (fun h => by simp at h) (fun _ => WpA_skip ?_)
            show WpA _ _ _ _
            ((refine WpA_lreg [] [] (by simp) fun K hK => ?_); simp (disch := omega) only [kc, prep1, Nat.reduceAdd, effM, ofConst, Value.oneCell', evBin, wrapI]; (with_reducible refine hK _ ?_))
            refine ⟨⟨j + 1, by omega, fun b hb => ?_⟩, by simp only; omega, Weak_sub trivial ?_⟩
            · by_cases e : b = j
              · subst e; exact he
              · exact okj b (by omega)
            · simp [wkL, okTV, okAV]
          · have hr0 : r = false := by
              cases r with
              | false => rfl
              | true => exact absurd (hr.1 rfl i hm j (by omega)) he
            subst hr0
            have hne := cmpZ_ne' he
            (refine WpA_seq (WpA_sreg [] [] (by simp) fun K hK => ?_); simp (disch := omega) only [kc, prep1, Nat.reduceAdd, slM, Hm, effM, evBin, decT]; (with_reducible refine hK _ ?_))
            refine WpA_cond rfl (fun _ => WpA_skip ?_) (fun h => by simp at h <;> omega)
            refine WpA_seq (WpA_block ?_)
            (refine WpA_sdraw mixedA [⟨14, _, _, _, c1⟩] [] (by kernel_rfl) (by simp) fun K hK => ?_; simp (disch := omega) only [kc, tZ, CItem.a, prep1, Nat.reduceAdd, opS_indexAddr, effR, natOf_pos, ty_slice62, ls_get, a1, fR, ty_sz120, packT, ty_agg120, ty_slice120, a3, fZ, ty_sz51, ty_agg51, Nat.le_refl, a2, a4, opS_call, newS, effA, List.find?_cons, evAll, norm, CallRes.plain, rawTV, rawAV, normOk, isPure, noRefTV, noRefAV, renTV, renAV, effM, ofConst, Value.oneCell', evBin, decF, Bool.not_false]; (with_reducible refine hK _ ?_))
            refine WpA_cond rfl (fun _ => ?_) (fun h => by simp at h <;> omega)
            (refine WpA_sreg [] [] (by simp) fun K hK => ?_; simp (disch := omega) only [kc, prep1, ofConst, Value.oneCell']; (with_reducible refine hK _ ?_))
            (refine WpA_ret ⟨.inr rfl, ret_now rfl ?_ rfl⟩; simp (disch := omega) only [resA, Tryz.results115, resOne, List.getElem?_cons_succ, List.getElem?_cons_zero])
        · (refine WpA_seq (WpA_sreg [] [] (by simp) fun K hK => ?_); simp (disch := omega) only [kc, prep1, Nat.reduceAdd, slM, Hm, effM, evBin, decF]; (with_reducible refine hK _ ?_))
          refine WpA_cond rfl (fun h => by simp at h <;> omega) (fun _ => WpA_exit ?_)
          show WpA _ _ _ _
          ((refine WpA_lreg [] [] (by simp) fun K hK => ?_); simp (disch := omega) only [kc, prep1, effM, ofConst, Value.oneCell', evBin, wrapI]; (with_reducible refine hK _ ?_))
          refine ⟨⟨i + 1, by omega, fun a ha b hb => ?_⟩, by simp only; omega, Weak_sub trivial ?_⟩
          · by_cases e : a = i
            · subst e; exact okj b (by omega)
            · exact ok a (by omega) b hb
          · simp [wkL, okTV, okAV]
    · have hr1 : r = true := hr.2 fun a ha b hb => by
        rcases Nat.lt_trichotomy a b with h | h | h
        · exact (ok b (by omega) a h).symm
        · rw [h]
        · exact ok a (by omega) b h
      subst hr1
      (refine WpA_sreg [] [] (by simp) fun K hK => ?_; simp (disch := omega) only [kc, prep1, slM, Hm, effM, evBin, decF]; (with_reducible refine hK _ ?_))
      refine WpA_seq (WpA_cond rfl (fun h => by simp at h <;> omega) (fun _ => WpA_exit ?_))
      show WpA _ _ _ _
      (refine WpA_sreg [] [] (by simp) fun K hK => ?_; simp (disch := omega) only [kc, prep1, ofConst, Value.oneCell']; (with_reducible refine hK _ ?_))
      (refine WpA_ret ⟨.inr rfl, ret_now rfl ?_ rfl⟩; simp (disch := omega) only [resA, Tryz.results115, resOne, List.getElem?_cons_succ, List.getElem?_cons_zero])
structure DfG (n : Nat) (f : Nat → Nat → Int) where
  i : Nat
  hi : i ≤ n
  ok : ∀ a, a < i → 0 < detF (a + 1) f
theorem sg_pos {z : Int} (h : 0 < z) : sg z = 1 := by unfold sg; rw [if_neg (by omega), if_neg (by omega)]
theorem sg_npos {z : Int} (h : ¬ 0 < z) : sg z ≤ 0 := by unfold sg; split <;> (try split) <;> omega
set_option maxRecDepth 100000 in
set_option maxHeartbeats 8000000 in
theorem Definite_C (n : Nat) (f : Nat → Nat → Int) (hn1 : 1 ≤ n) (hn : n ≤ 16) (hf : ∀ i j, i < n → j < n → Sz (f i j) 1024) (hs : SymF f n) (r : Bool) (hr : r = true ↔ PosF f n) : CallC Tryz.prog 116 [slM (mat n n f)] ⟨[], .raw (.bool r)⟩ := by
  have hL := Leading_C n f hn1 hn hf
  have hS := Symmetric_C n f hn hf true (by simp [hs])
  refine callC_of Tryz.func116 rfl (by kernel_rfl) ?_; rw [Tryz.ntmps116]
  (refine WpA_sreg [] [] (by simp) fun K hK => ?_; simp (disch := omega) only [kc, prep1, slM, List.replicate, ofConst, Value.oneCell']; (with_reducible refine hK _ ?_))
  (refine WpA_sreg [⟨1, _, _, _, hL⟩] [] (by simp) fun K hK => ?_; simp (disch := omega) only [kc, slM, ldT, CItem.a, prep1, Nat.reduceAdd, opS_call, newS, effA, List.find?_cons, evAll, norm, CallRes.plain, rawTV, rawAV, normOk, noRefTV, noRefAV, renTV, renAV, opS_extract, effM]; (with_reducible refine hK _ ?_))
  (refine WpA_seq (WpA_sreg [⟨4, _, _, _, hS⟩] [] (by simp) fun K hK => ?_); simp (disch := omega) only [kc, slM, CItem.a, prep1, Nat.reduceAdd, opS_un, effM, evUn, stS_guard, opS_call, newS, effA, List.find?_cons, evAll, norm, CallRes.plain, rawTV, rawAV, normOk, noRefTV, noRefAV, renTV, renAV, ifT, opS_pick]; (with_reducible refine hK _ ?_))
  refine WpA_cond rfl (fun h => by simp at h) (fun _ => WpA_skip ?_)
  show WpA _ _ _ _
  (refine WpA_seq (WpA_sreg [] [] (by simp) fun K hK => ?_); simp (disch := omega) only [kc, prep1, Nat.reduceAdd, opS_len, effR, ty_slice120, ls_len, rowF_len, ofConst, Value.oneCell']; (with_reducible refine hK _ ?_))
  refine WpA_forb (G := DfG n f) (fun g => ⟨[jk, jk, .raw (.bool false), jk, jk, jk, jk, jk, jk, jk, jk, jk, jk, jk, jk, jk, jk, jk, jk, .one (.p (.sl (ls fZ (ldF n f)))), .raw (.int .i64 (n : Int)), .raw (.int .i64 (g.i : Int)), jk, jk, jk, jk, jk, jk, jk], Hm []⟩) (fun g => n - g.i) ⟨0, by omega, fun a ha => by omega⟩ ?_ ?_
  · refine Weak_sub trivial ?_
    simp [wkL, okTV, okAV]
  · rintro ⟨i, hi, ok⟩
    simp only
    by_cases hm : i < n
    · have a1 : (ldF n f)[i]? = some (detF (i + 1) f) := rowF_get _ hm
      have hz := detF_sz (n := i + 1) (f := f) (by omega) (fun a b ha hb => hf a b (by omega) (by omega))
      have c1 := sign_C (detF (i + 1) f) (hz.mono (by omega))
      (refine WpA_sreg [] [] (by simp) fun K hK => ?_; simp (disch := omega) only [kc, prep1, Hm, effM, evBin, decT]; (with_reducible refine hK _ ?_))
      refine WpA_seq (WpA_cond rfl (fun _ => WpA_skip ?_) (fun h => by simp at h <;> omega))
      refine WpA_seq (WpA_block ?_)
      (refine WpA_sreg [] [] (by simp) fun K hK => ?_; simp (disch := omega) only [kc, prep1, Nat.reduceAdd, opS_indexAddr, effR, natOf_pos, ty_slice120, ls_get, a1, fZ, ty_sz51, packT, ty_agg51, Nat.le_refl, opS_alloc, newS, effA, ty_zero51, Value.oneCell', ifT, opS_store, wrS, effD, updH, cellsOf, isPure, putCells, killTV, killAV]; (with_reducible refine hK _ ?_))
      by_cases hp : 0 < detF (i + 1) f
      · rw [sg_pos hp] at c1
        (refine WpA_sreg [⟨1, _, _, _, c1⟩] [] (by simp) fun K hK => ?_; simp (disch := omega) only [kc, tZ, decF, CItem.a, prep1, Nat.reduceAdd, effR, updH, ifF, packT, ty_sz51, ty_agg51, Nat.le_refl, opS_call, newS, effA, List.find?_cons, evAll, norm, CallRes.plain, rawTV, rawAV, normOk, isPure, noRefTV, noRefAV, renTV, renAV, effM, ofConst, Value.oneCell', evBin, Int.reduceLE, decide_false]; (with_reducible refine hK _ ?_))
        refine WpA_cond rfl (fun h => by simp at h) (fun _ => WpA_skip ?_)
        show WpA _ _ _ _
        ((refine WpA_lreg [] [] (by simp) fun K hK => ?_); simp (disch := omega) only [kc, prep1, effM, ofConst, Value.oneCell', evBin, wrapI]; (with_reducible refine hK _ ?_))
        refine ⟨⟨i + 1, by omega, fun a ha => ?_⟩, by simp only; omega, Weak_sub trivial ?_⟩
        · by_cases e : a = i
          · subst e; exact hp
          · exact ok a (by omega)
        · simp [wkL, okTV, okAV]
      · have hr0 : r = false := by
          cases r with
          | false => rfl
          | true => exact absurd (hr.1 rfl i hm) hp
        subst hr0
        have hle := sg_npos hp
        (refine WpA_sreg [⟨1, _, _, _, c1⟩] [] (by simp) fun K hK => ?_; simp (disch := omega) only [kc, tZ, CItem.a, prep1, Nat.reduceAdd, effR, updH, ifF, packT, ty_sz51, ty_agg51, Nat.le_refl, opS_call, newS, effA, List.find?_cons, evAll, norm, CallRes.plain, rawTV, rawAV, normOk, isPure, noRefTV, noRefAV, renTV, renAV, effM, ofConst, Value.oneCell', evBin, decT]; (with_reducible refine hK _ ?_))
        refine WpA_cond rfl (fun _ => ?_) (fun h => by simp at h <;> omega)
        (refine WpA_sreg [] [] (by simp) fun K hK => ?_; simp (disch := omega) only [kc, prep1, ofConst, Value.oneCell']; (with_reducible refine hK _ ?_))
        (refine WpA_ret ⟨.inr rfl, ret_now rfl ?_ rfl⟩; simp (disch := omega) only [resA, Tryz.results116, resOne, List.getElem?_cons_succ, List.getElem?_cons_zero])
    · have hr1 : r = true := hr.2 fun a ha => ok a (by omega)
      subst hr1
      (refine WpA_sreg [] [] (by simp) fun K hK => ?_; simp (disch := omega) only [kc, prep1, Hm, effM, evBin, decF]; (with_reducible refine hK _ ?_))
      refine WpA_seq (WpA_cond rfl (fun h => by simp at h <;> omega) (fun _ => WpA_exit ?_))
      show WpA _ _ _ _
      (refine WpA_sreg [] [] (by simp) fun K hK => ?_; simp (disch := omega) only [kc, prep1, ofConst, Value.oneCell']; (with_reducible refine hK _ ?_))
      (refine WpA_ret ⟨.inr rfl, ret_now rfl ?_ rfl⟩; simp (disch := omega) only [resA, Tryz.results116, resOne, List.getElem?_cons_succ, List.getElem?_cons_zero])
theorem cmpZ_le (a b : Int) : decide (cmpZ a b ≤ 0) = decide (a ≤ b) := by
  unfold cmpZ
  split
  · simp; omega
  · split
    · simp; omega
    · simp; omega
theorem cmpZ_ge (a b : Int) : decide (0 ≤ cmpZ a b) = decide (b ≤ a) := by
  unfold cmpZ
  split
  · simp; omega
  · split
    · simp; omega
    · simp; omega
set_option maxRecDepth 100000 in
set_option maxHeartbeats 8000000 in
theorem small8_C (n : Nat) (f : Nat → Nat → Int) (hn1 : 1 ≤ n) (hn : n ≤ 16) (hf : ∀ i j, i < n → j < n → Sz (f i j) 1024) : CallC Tryz.prog 72 [slM (mat n n f)] ⟨[], .raw (.bool (decide (detF n f ≤ 10000)))⟩ := by
  have hD := Determinant_C n f hn1 hn hf
  have hS := small_C 10000 (by omega) (by omega)
  have hC := Cmp_C (detF n f) 10000 ((detF_sz hn hf).mono (by omega)) (sz_lt (by decide) (by omega))
  have hle := cmpZ_le (detF n f) 10000
  refine callC_of Tryz.func72 rfl (by kernel_rfl) ?_; rw [Tryz.ntmps72]
  (refine WpA_sreg [] [] (by simp) fun K hK => ?_; simp (disch := omega) only [kc, prep1, slM, List.replicate, ofConst, Value.oneCell']; (with_reducible refine hK _ ?_))
  (refine WpA_sreg [⟨1, _, _, _, hD⟩, ⟨2, _, _, _, hS⟩, ⟨3, _, _, _, hC⟩] [] (by simp) fun K hK => ?_; simp (disch := omega) only [kc, slM, tZ, decF, CItem.a, prep1, Nat.reduceAdd, opS_call, newS, effA, List.find?_cons, evAll, norm, CallRes.plain, rawTV, rawAV, normOk, noRefTV, noRefAV, renTV, renAV, Nat.reduceBEq, ofConst, Value.oneCell', isPure, effM, evBin, hle]; (with_reducible refine hK _ ?_))
  (refine WpA_ret ⟨.inr rfl, ret_now rfl ?_ rfl⟩; simp (disch := omega) only [resA, Tryz.results72, resOne, List.getElem?_cons_succ, List.getElem?_cons_zero])
set_option maxRecDepth 100000 in
set_option maxHeartbeats 8000000 in
theorem Validate_C (n c : Nat) (f : Nat → Nat → Int) (hn1 : 1 ≤ n) (hn : n ≤ 16) (hc1 : 1 ≤ c) (hc : c ≤ 16) (hf : ∀ i j, i < n → j < c → Sz (f i j) 1024) :
    ∃ e : Int, (e = 0 ↔ (n = c ∧ n ≤ 8 ∧ SymF f n ∧ PosF f n)) ∧ CallC Tryz.prog 71 [slM (mat n c f)] ⟨[], .raw (.int .i64 e)⟩ := by
  have hSq := Square_C (mat n c f)
  by_cases h1 : n = c
  · subst h1
    rw [sqT_yes f hn1 hn] at hSq
    by_cases h2 : 8 < n
    · refine ⟨3, by omega, ?_⟩
      refine callC_of Tryz.func71 rfl (by kernel_rfl) ?_; rw [Tryz.ntmps71]
      (refine WpA_sreg [] [] (by simp) fun K hK => ?_; simp (disch := omega) only [kc, prep1, slM, List.replicate, ofConst, Value.oneCell']; (with_reducible refine hK _ ?_))
      (refine WpA_sreg [⟨1, _, _, _, hSq⟩] [] (by simp) fun K hK => ?_; simp (disch := omega) only [kc, slM, CItem.a, prep1, Nat.reduceAdd, opS_call, newS, effA, List.find?_cons, evAll, norm, CallRes.plain, rawTV, rawAV, normOk, noRefTV, noRefAV, renTV, renAV, opS_extract, effM]; (with_reducible refine hK _ ?_))
      refine WpA_seq (WpA_block ?_)
      (refine WpA_sreg [] [] (by simp) fun K hK => ?_; simp (disch := omega) only [kc, prep1, Nat.reduceAdd, opS_un, effM, evUn, stS_guard, ofConst, Value.oneCell', ifT, evBin, decT, opS_pick]; (with_reducible refine hK _ ?_))
      refine WpA_cond rfl (fun _ => ?_) (fun h => by simp at h <;> omega)
      (refine WpA_sreg [] [] (by simp) fun K hK => ?_; simp (disch := omega) only [kc, prep1, ofConst, Value.oneCell']; (with_reducible refine hK _ ?_))
      (refine WpA_ret ⟨.inr rfl, ret_now rfl ?_ rfl⟩; simp (disch := omega) only [resA, Tryz.results71, resOne, List.getElem?_cons_succ, List.getElem?_cons_zero])
    · by_cases h3 : SymF f n
      · have hS := Symmetric_C n f hn hf true (by simp [h3])
        by_cases h4 : PosF f n
        · have hD := Definite_C n f hn1 hn hf h3 true (by simp [h4])
          refine ⟨0, by simp [h3, h4]; omega, ?_⟩
          refine callC_of Tryz.func71 rfl (by kernel_rfl) ?_; rw [Tryz.ntmps71]
          (refine WpA_sreg [] [] (by simp) fun K hK => ?_; simp (disch := omega) only [kc, prep1, slM, List.replicate, ofConst, Value.oneCell']; (with_reducible refine hK _ ?_))
          (refine WpA_sreg [⟨1, _, _, _, hSq⟩] [] (by simp) fun K hK => ?_; simp (disch := omega) only [kc, slM, CItem.a, prep1, Nat.reduceAdd, opS_call, newS, effA, List.find?_cons, evAll, norm, CallRes.plain, rawTV, rawAV, normOk, noRefTV, noRefAV, renTV, renAV, opS_extract, effM]; (with_reducible refine hK _ ?_))
          refine WpA_seq (WpA_block ?_)
          (refine WpA_sreg [] [] (by simp) fun K hK => ?_; simp (disch := omega) only [kc, prep1, Nat.reduceAdd, opS_un, effM, evUn, stS_guard, ofConst, Value.oneCell', ifT, evBin, decF, opS_pick]; (with_reducible refine hK _ ?_))
          refine WpA_cond rfl (fun h => by simp at h <;> omega) (fun _ => ?_)
          (refine WpA_sreg [⟨1, _, _, _, hS⟩] [] (by simp) fun K hK => ?_; simp (disch := omega) only [kc, slM, CItem.a, prep1, Nat.reduceAdd, opS_call, newS, effA, List.find?_cons, evAll, norm, CallRes.plain, rawTV, rawAV, normOk, noRefTV, noRefAV, renTV, renAV, opS_un, effM, evUn]; (with_reducible refine hK _ ?_))
          refine WpA_cond rfl (fun h => by simp at h) (fun _ => ?_)
          (refine WpA_sreg [⟨1, _, _, _, hD⟩] [] (by simp) fun K hK => ?_; simp (disch := omega) only [kc, slM, CItem.a, prep1, Nat.reduceAdd, opS_call, newS, effA, List.find?_cons, evAll, norm, CallRes.plain, rawTV, rawAV, normOk, noRefTV, noRefAV, renTV, renAV, opS_un, effM, evUn]; (with_reducible refine hK _ ?_))
          refine WpA_cond rfl (fun h => by simp at h) (fun _ => WpA_skip ?_)
          show WpA _ _ _ _
          (refine WpA_sreg [] [] (by simp) fun K hK => ?_; simp (disch := omega) only [kc, prep1, ofConst, Value.oneCell']; (with_reducible refine hK _ ?_))
          (refine WpA_ret ⟨.inr rfl, ret_now rfl ?_ rfl⟩; simp (disch := omega) only [resA, Tryz.results71, resOne, List.getElem?_cons_succ, List.getElem?_cons_zero])
        · have hD := Definite_C n f hn1 hn hf h3 false (by simp [h4])
          refine ⟨5, by simp [h4], ?_⟩
          refine callC_of Tryz.func71 rfl (by kernel_rfl) ?_; rw [Tryz.ntmps71]
          (refine WpA_sreg [] [] (by simp) fun K hK => ?_; simp (disch := omega) only [kc, prep1, slM, List.replicate, ofConst, Value.oneCell']; (with_reducible refine hK _ ?_))
          (refine WpA_sreg [⟨1, _, _, _, hSq⟩] [] (by simp) fun K hK => ?_; simp (disch := omega) only [kc, slM, CItem.a, prep1, Nat.reduceAdd, opS_call, newS, effA, List.find?_cons, evAll, norm, CallRes.plain, rawTV, rawAV, normOk, noRefTV, noRefAV, renTV, renAV, opS_extract, effM]; (with_reducible refine hK _ ?_))
          refine WpA_seq (WpA_block ?_)
          (refine WpA_sreg [] [] (by simp) fun K hK => ?_; simp (disch := omega) only [kc, prep1, Nat.reduceAdd, opS_un, effM, evUn, stS_guard, ofConst, Value.oneCell', ifT, evBin, decF, opS_pick]; (with_reducible refine hK _ ?_))
          refine WpA_cond rfl (fun h => by simp at h <;> omega) (fun _ => ?_)
          (refine WpA_sreg [⟨1, _, _, _, hS⟩] [] (by simp) fun K hK => ?_; simp (disch := omega) only [kc, slM, CItem.a, prep1, Nat.reduceAdd, opS_call, newS, effA, List.find?_cons, evAll, norm, CallRes.plain, rawTV, rawAV, normOk, noRefTV, noRefAV, renTV, renAV, opS_un, effM, evUn]; (with_reducible refine hK _ ?_))
          refine WpA_cond rfl (fun h => by simp at h) (fun _ => ?_)
          (refine WpA_sreg [⟨1, _, _, _, hD⟩] [] (by simp) fun K hK => ?_; simp (disch := omega) only [kc, slM, CItem.a, prep1, Nat.reduceAdd, opS_call, newS, effA, List.find?_cons, evAll, norm, CallRes.plain, rawTV, rawAV, normOk, noRefTV, noRefAV, renTV, renAV, opS_un, effM, evUn, Bool.not_false]; (with_reducible refine hK _ ?_))
          refine WpA_cond rfl (fun _ => ?_) (fun h => by simp at h)
          (refine WpA_sreg [] [] (by simp) fun K hK => ?_; simp (disch := omega) only [kc, prep1, ofConst, Value.oneCell']; (with_reducible refine hK _ ?_))
          (refine WpA_ret ⟨.inr rfl, ret_now rfl ?_ rfl⟩; simp (disch := omega) only [resA, Tryz.results71, resOne, List.getElem?_cons_succ, List.getElem?_cons_zero])
      · have hS := Symmetric_C n f hn hf false (by simp [h3])
        refine ⟨4, by simp [h3], ?_⟩
        refine callC_of Tryz.func71 rfl (by kernel_rfl) ?_; rw [Tryz.ntmps71]
        (refine WpA_sreg [] [] (by simp) fun K hK => ?_; simp (disch := omega) only [kc, prep1, slM, List.replicate, ofConst, Value.oneCell']; (with_reducible refine hK _ ?_))
        (refine WpA_sreg [⟨1, _, _, _, hSq⟩] [] (by simp) fun K hK => ?_; simp (disch := omega) only [kc, slM, CItem.a, prep1, Nat.reduceAdd, opS_call, newS, effA, List.find?_cons, evAll, norm, CallRes.plain, rawTV, rawAV, normOk, noRefTV, noRefAV, renTV, renAV, opS_extract, effM]; (with_reducible refine hK _ ?_))
        refine WpA_seq (WpA_block ?_)
        (refine WpA_sreg [] [] (by simp) fun K hK => ?_; simp (disch := omega) only [kc, prep1, Nat.reduceAdd, opS_un, effM, evUn, stS_guard, ofConst, Value.oneCell', ifT, evBin, decF, opS_pick]; (with_reducible refine hK _ ?_))
        refine WpA_cond rfl (fun h => by simp at h <;> omega) (fun _ => ?_)
        (refine WpA_sreg [⟨1, _, _, _, hS⟩] [] (by simp) fun K hK => ?_; simp (disch := omega) only [kc, slM, CItem.a, prep1, Nat.reduceAdd, opS_call, newS, effA, List.find?_cons, evAll, norm, CallRes.plain, rawTV, rawAV, normOk, noRefTV, noRefAV, renTV, renAV, opS_un, effM, evUn, Bool.not_false]; (with_reducible refine hK _ ?_))
        refine WpA_cond rfl (fun _ => ?_) (fun h => by simp at h)
        (refine WpA_sreg [] [] (by simp) fun K hK => ?_; simp (disch := omega) only [kc, prep1, ofConst, Value.oneCell']; (with_reducible refine hK _ ?_))
        (refine WpA_ret ⟨.inr rfl, ret_now rfl ?_ rfl⟩; simp (disch := omega) only [resA, Tryz.results71, resOne, List.getElem?_cons_succ, List.getElem?_cons_zero])
  · rw [sqT_no f hn1 h1] at hSq
    refine ⟨3, by simp [h1], ?_⟩
    refine callC_of Tryz.func71 rfl (by kernel_rfl) ?_; rw [Tryz.ntmps71]
    (refine WpA_sreg [] [] (by simp) fun K hK => ?_; simp (disch := omega) only [kc, prep1, slM, List.replicate, ofConst, Value.oneCell']; (with_reducible refine hK _ ?_))
    (refine WpA_sreg [⟨1, _, _, _, hSq⟩] [] (by simp) fun K hK => ?_; simp (disch := omega) only [kc, slM, CItem.a, prep1, Nat.reduceAdd, opS_call, newS, effA, List.find?_cons, evAll, norm, CallRes.plain, rawTV, rawAV, normOk, noRefTV, noRefAV, renTV, renAV, opS_extract, effM]; (with_reducible refine hK _ ?_))
    refine WpA_seq (WpA_block ?_)
    (refine WpA_sreg [] [] (by simp) fun K hK => ?_; simp (disch := omega) only [kc, prep1, Nat.reduceAdd, opS_un, effM, evUn, Bool.not_false, stS_guard, reduceCtorEq, ofConst, Value.oneCell', Option.map_none, opS_pick]; (with_reducible refine hK _ ?_))
    refine WpA_cond rfl (fun _ => ?_) (fun h => by simp at h)
    (refine WpA_sreg [] [] (by simp) fun K hK => ?_; simp (disch := omega) only [kc, prep1, ofConst, Value.oneCell']; (with_reducible refine hK _ ?_))
    (refine WpA_ret ⟨.inr rfl, ret_now rfl ?_ rfl⟩; simp (disch := omega) only [resA, Tryz.results71, resOne, List.getElem?_cons_succ, List.getElem?_cons_zero])
end Go.Proofs.YtennjcjjegbhgaaGreat
namespace Go.Proofs.YtennjcjjegbhgaaGreat
open Go.RowKit
abbrev slZ (l : List Int) : TV := .one (.p (.sl (ls fZ l)))
theorem sel_lam (i j : Nat) (f : Nat → Nat → Int) : ((List.range j ++ [i]).map fun r => (List.range (j + 1)).map (f r)) = mat (j + 1) (j + 1) (lamF f i j) := by
  rw [mat, List.range_succ, List.map_append, List.map_append]
  congr 1
  · refine List.map_congr_left fun r hr => ?_
    have := List.mem_range.1 hr
    rw [← List.range_succ]
    exact rowF_congr (m := j + 1) fun c _ => by unfold lamF; rw [if_pos this]
  · simp only [List.map_cons, List.map_nil]
    rw [← List.range_succ]
    congr 1
    exact rowF_congr (m := j + 1) fun c _ => by unfold lamF; rw [if_neg (by omega)]
theorem lamF_sz {n i j : Nat} {f : Nat → Nat → Int} (hi : i < n) (hj : j < n) (hf : ∀ i j, i < n → j < n → Sz (f i j) 1024) : ∀ r c, r < j + 1 → c < j + 1 → Sz (lamF f i j r c) 1024 := fun r c hr hc => by
  unfold lamF
  split
  · exact hf r c (by omega) (by omega)
  · exact hf i c hi (by omega)
theorem lam_sz {n i j : Nat} {f : Nat → Nat → Int} (hn : n ≤ 16) (hi : i < n) (hj : j < n) (hf : ∀ i j, i < n → j < n → Sz (f i j) 1024) : Sz (lam f i j) 67174400 :=
  detF_sz (by omega) (lamF_sz hi hj hf)
theorem dd_sz {n k : Nat} {f : Nat → Nat → Int} (hn : n ≤ 16) (hk : k ≤ n) (hf : ∀ i j, i < n → j < n → Sz (f i j) 1024) : Sz (dd f k) 67174400 := by
  unfold dd
  split
  · exact sz_one (by omega)
  · exact detF_sz (by omega) fun i j hi hj => hf i j (by omega) (by omega)
set_option maxRecDepth 100000 in
set_option maxHeartbeats 8000000 in
theorem Lambda_C (n : Nat) (f : Nat → Nat → Int) (i j : Nat) (hn : n ≤ 16) (hi : i < n) (hj : j < n) (hf : ∀ i j, i < n → j < n → Sz (f i j) 1024) :
    CallC Tryz.prog 124 [slM (mat n n f), .raw (.int .i64 (i : Int)), .raw (.int .i64 (j : Int))] ⟨[], tZ (lam f i j)⟩ := by
  have c2 := Select_C n n f (List.range j ++ [i]) (List.range (j + 1)) hn hn (fun x hx => by
    rcases List.mem_append.1 hx with h | h
    · have := List.mem_range.1 h; omega
    · have : x = i := by simpa using h
      omega) (fun x hx => by have := List.mem_range.1 hx; omega) (by simp; omega) (by simp; omega)
  rw [sel_lam] at c2
  have c3 := Determinant_C (j + 1) (lamF f i j) (by omega) (by omega) (lamF_sz hi hj hf)
  refine callC_of Tryz.func124 rfl (by kernel_rfl) ?_; rw [Tryz.ntmps124]
  (refine WpA_sreg [] [] (by simp) fun K hK => ?_; simp (disch := omega) only [kc, prep1, slM, Nat.reduceAdd, List.replicate, opS_alloc, newS, effA, ty_zero51, Value.oneCell', ifT]; (with_reducible refine hK _ ?_))
  (refine WpA_sreg [] [] (by simp) fun K hK => ?_; simp (disch := omega) only [kc, prep1, ofConst, Value.oneCell']; (with_reducible refine hK _ ?_))
  (refine WpA_seq (WpA_sreg [] [] (by simp) fun K hK => ?_); simp (disch := omega) only [kc, prep1, ofConst, Value.oneCell']; (with_reducible refine hK _ ?_))
  refine WpA_forb (G := FiG j) (fun g => ⟨[slM (mat n n f), .raw (.int .i64 (i : Int)), .raw (.int .i64 (j : Int)), jk, jk, jk, .one (.ptr 6 0 0 0), .one (.sl 18 0 0 g.i), .one (.sl 22 0 0 g.i), .raw (.int .i64 (g.i : Int)), jk, jk, jk, jk, jk, jk, jk, jk, jk, jk, jk, jk, jk, jk, jk, jk, jk, jk, jk, jk, jk, jk, jk, jk], Hm [(6, bx0), (18, [⟨3, 1, lc fN (List.range g.i)⟩]), (22, [⟨3, 1, lc fN (List.range g.i)⟩])]⟩) (fun g => j - g.i) ⟨0, by omega⟩ ?_ ?_
  · refine (Weak_nil (k := 7) (d := 18) 3 1 (by omega) rfl rfl).trans ((Weak_nil (k := 8) (d := 22) 3 1 (by omega) rfl rfl).trans (Weak_sub ⟨rfl, rfl, rfl, trivial⟩ ?_))
    simp [wkL, okTV, okAV]
  · rintro ⟨k, hk⟩
    simp only
    by_cases hm : k < j
    · (refine WpA_seq (WpA_sreg [] [] (by simp) fun K hK => ?_); simp (disch := omega) only [kc, prep1, Nat.reduceAdd, slM, Hm, effM, evBin, decT]; (with_reducible refine hK _ ?_))
      refine WpA_cond rfl (fun _ => WpA_skip ?_) (fun h => by simp at h <;> omega)
      refine WpA_seq (WpA_block ?_)
      (refine WpA_sreg [] [] (by simp) fun K hK => ?_; simp (disch := omega) only [kc, prep1, Nat.reduceAdd, opS_buildSlice, newS, effA, ty_slice156, ty_zero3, ty_sz3, litA, cellsOf, isPure, Nat.reduceMul, Nat.reduceLeDiff, List.contains_nil, unP, ifT, opS_append, appS, effD, newsOf, Nat.reduceEqDiff, ifF, ty_by3, lc_allp, lc_len, List.length_range, allcons, allnil, and_true, killO, lc_kill, lcN_snoc, wrS, killTV, killAV, Nat.reduceBEq]; (with_reducible refine hK _ ?_))
      ((refine WpA_lreg [] [] (by simp) fun K hK => ?_); simp (disch := omega) only [kc, prep1, Nat.reduceAdd, opS_buildSlice, newS, effA, ty_slice156, ty_zero3, ty_sz3, litA, cellsOf, isPure, Nat.reduceMul, Nat.reduceLeDiff, List.contains_nil, unP, ifT, opS_append, appS, effD, newsOf, updH, Nat.reduceEqDiff, ifF, ty_by3, lc_allp, lc_len, List.length_range, allcons, allnil, and_true, killO, lc_kill, lcN_snoc, wrS, killTV, killAV, Nat.reduceBEq]; (with_reducible refine hK _ ?_))
      show WpA _ _ _ _
      ((refine WpA_lreg [] [] (by simp) fun K hK => ?_); simp (disch := omega) only [kc, prep1, Nat.reduceAdd, effM, ofConst, Value.oneCell', evBin, wrapI]; (with_reducible refine hK _ ?_))
      refine ⟨⟨k + 1, by omega⟩, by simp only; omega, Weak_sub ⟨rfl, ?_, ?_, trivial⟩ ?_⟩
      · rw [List.range_succ]; rfl
      · rw [List.range_succ]; rfl
      · simp [wkL, okTV, okAV]
    · have hkj : k = j := by omega
      subst hkj
      (refine WpA_seq (WpA_sreg [] [] (by simp) fun K hK => ?_); simp (disch := omega) only [kc, prep1, Nat.reduceAdd, slM, Hm, effM, evBin, decF]; (with_reducible refine hK _ ?_))
      refine WpA_cond rfl (fun h => by simp at h <;> omega) (fun _ => WpA_exit ?_)
      show WpA _ _ _ _
      (refine WpA_wsreg 9 [⟨9, _, _, _, c2⟩, ⟨10, _, _, _, c3⟩] [] (by simp) (by decide) fun K hK => ?_; simp (disch := omega) only [kc, slM, slN, tZ, CItem.a, prep1, Nat.reduceAdd, opS_buildSlice, newS, effA, ty_slice156, ty_zero3, ty_sz3, litA, cellsOf, isPure, Nat.reduceMul, Nat.reduceLeDiff, List.contains_nil, unP, ifT, opS_append, appS, effD, newsOf, Nat.reduceEqDiff, ifF, ty_by3, lc_allp, lc_len, List.length_range, allcons, allnil, and_true, killO, lc_kill, lcN_snoc, wrS, killTV, killAV, Nat.reduceBEq, updH]; (with_reducible refine hK _ ?_))
      refine ⟨⟨[jk, jk, jk, jk, jk, jk, .one (.ptr 6 0 0 0), jk, jk, jk, jk, jk, jk, jk, jk, jk, jk, jk, jk, jk, jk, jk, jk, slM (mat n n f), jk, jk, jk, slN (List.range k ++ [i]), jk, jk, jk, slN (List.range (k + 1)), jk, jk], Hm [(6, bx0)]⟩, (Weak_fz 18 (fzOk_one rfl)).trans ((Weak_fz 22 (fzOk_one rfl)).trans (Weak_sub ⟨rfl, trivial⟩ ?_)), by simp, ?_⟩
      · simp [wkL, okTV, okAV, fzTV, fzAV, updH, Hm, lc_take, lc_cellF, List.range_succ, List.take_of_length_le]
      · (intro K hK; simp (disch := omega) only [kc, slM, slN, tZ, CItem.a, prep1, Nat.reduceAdd, Hm, opS_call, newS, effA, List.find?_cons, evAll, norm, CallRes.plain, rawTV, rawAV, normOk, noRefTV, noRefAV, renTV, renAV, Nat.reduceBEq, opS_store, wrS, effD, ty_sz51, cellsOf, Nat.le_refl, isPure, ifT, putCells, killTV, killAV]; (with_reducible refine hK _ ?_))
        rw [← lam]
        (refine WpA_ret ⟨.inr rfl, ret_now rfl ?_ rfl⟩; simp (disch := omega) only [kc, resA, Tryz.results124, resOne, updH, ifF, packT, ty_sz51, ty_agg51, Nat.reduceAdd, Nat.le_refl, tZ])
set_option maxRecDepth 100000 in
set_option maxHeartbeats 8000000 in
theorem minor_C (n : Nat) (f : Nat → Nat → Int) (k : Nat) (hn : n ≤ 16) (hk : k ≤ n) :
    CallC Tryz.prog 125 [slZ (ldF n f), .raw (.int .i64 (k : Int))] ⟨[], tZ (dd f k)⟩ := by
  have c1 := small_C 1 (by omega) (by omega)
  by_cases h0 : k = 0
  · subst h0
    rw [show dd f 0 = 1 from rfl]
    refine callC_of Tryz.func125 rfl (by kernel_rfl) ?_; rw [Tryz.ntmps125]
    (refine WpA_sreg [] [] (by simp) fun K hK => ?_; simp (disch := omega) only [kc, prep1, slZ, Nat.reduceAdd, List.replicate, opS_alloc, newS, effA, ty_zero51, Value.oneCell', ifT]; (with_reducible refine hK _ ?_))
    (refine WpA_seq (WpA_sreg [] [] (by simp) fun K hK => ?_); simp (disch := omega) only [kc, prep1, effM, ofConst, Value.oneCell', evBin, decT]; (with_reducible refine hK _ ?_))
    refine WpA_cond rfl (fun _ => ?_) (fun h => by simp at h)
    (refine WpA_sreg [⟨0, _, _, _, c1⟩] [] (by simp) fun K hK => ?_; simp (disch := omega) only [kc, tZ, decF, CItem.a, prep1, opS_call, newS, effA, List.find?_cons, evAll, ofConst, Value.oneCell', norm, CallRes.plain, rawTV, rawAV, normOk, noRefTV, noRefAV, renTV, renAV, opS_store, wrS, effD, ty_sz51, updH, cellsOf, Nat.reduceAdd, Nat.le_refl, isPure, ifT, putCells, killTV, killAV]; (with_reducible refine hK _ ?_))
    (refine WpA_ret ⟨.inr rfl, ret_now rfl ?_ rfl⟩; simp (disch := omega) only [kc, resA, Tryz.results125, resOne, updH, ifF, packT, ty_sz51, ty_agg51, Nat.reduceAdd, Nat.le_refl, tZ, decF])
  · rw [show dd f k = detF k f from if_neg h0]
    have e1 : ((k : Int) - 1).toNat = k - 1 := by omega
    have a1 : (ldF n f)[k - 1]? = some (detF k f) := by rw [rowF_get _ (by omega), show k - 1 + 1 = k by omega]
    refine callC_of Tryz.func125 rfl (by kernel_rfl) ?_; rw [Tryz.ntmps125]
    (refine WpA_sreg [] [] (by simp) fun K hK => ?_; simp (disch := omega) only [kc, prep1, slZ, Nat.reduceAdd, List.replicate, opS_alloc, newS, effA, ty_zero51, Value.oneCell', ifT]; (with_reducible refine hK _ ?_))
    (refine WpA_seq (WpA_sreg [] [] (by simp) fun K hK => ?_); simp (disch := omega) only [kc, prep1, effM, ofConst, Value.oneCell', evBin, decF]; (with_reducible refine hK _ ?_))
    refine WpA_cond rfl (fun h => by simp at h <;> omega) (fun _ => WpA_skip ?_)
    show WpA _ _ _ _
    (refine WpA_sreg [] [] (by simp) fun K hK => ?_; simp (disch := omega) only [kc, prep1, Nat.reduceAdd, effM, ofConst, Value.oneCell', evBin, wrapI, opS_indexAddr, effR, natOf_pos, e1, ty_slice120, ls_get, a1, fZ, ty_sz51, packT, ty_agg51, Nat.le_refl, opS_store, wrS, effD, updH, cellsOf, isPure, ifT, putCells, killTV, killAV]; (with_reducible refine hK _ ?_))
    (refine WpA_ret ⟨.inr rfl, ret_now rfl ?_ rfl⟩; simp (disch := omega) only [kc, resA, Tryz.results125, resOne, updH, ifF, packT, ty_sz51, ty_agg51, Nat.reduceAdd, Nat.le_refl, tZ])
set_option maxRecDepth 100000 in
set_option maxHeartbeats 8000000 in
theorem Sized_C (n : Nat) (f : Nat → Nat → Int) (i j : Nat) (hn : n ≤ 16) (hi : i < n) (hj : j < n) (hf : ∀ i j, i < n → j < n → Sz (f i j) 1024) :
    CallC Tryz.prog 120 [slM (mat n n f), slZ (ldF n f), .raw (.int .i64 (i : Int)), .raw (.int .i64 (j : Int))] ⟨[], .raw (.bool (decide (2 * ((lam f i j).natAbs : Int) ≤ dd f (j + 1))))⟩ := by
  have hl := lam_sz hn hi hj hf
  have hd := dd_sz (k := j + 1) hn (by omega) hf
  have hla : Sz ((lam f i j).natAbs : Int) 67174400 := hl.le (by omega)
  have hm : Sz (2 * ((lam f i j).natAbs : Int)) (1 + 67174400) := Sz.mul (sz_lt (by decide) (by omega)) hla
  have c1 := small_C 2 (by omega) (by omega)
  have c2 := Lambda_C n f i j hn hi hj hf
  have c3 := abs_C (lam f i j) (hl.mono (by omega))
  have c4 := Mul_C 2 ((lam f i j).natAbs : Int) (sz_lt (by decide) (by omega)) (hla.mono (by omega))
  have c5 := minor_C n f (j + 1) hn (by omega)
  rw [show ((j + 1 : Nat) : Int) = (j : Int) + 1 by omega] at c5
  have c6 := Cmp_C (2 * ((lam f i j).natAbs : Int)) (dd f (j + 1)) (hm.mono (by omega)) (hd.mono (by omega))
  have hle := cmpZ_le (2 * ((lam f i j).natAbs : Int)) (dd f (j + 1))
  generalize lam f i j = l at *
  generalize dd f (j + 1) = d at *
  refine callC_of Tryz.func120 rfl (by kernel_rfl) ?_; rw [Tryz.ntmps120]
  (refine WpA_sreg [] [] (by simp) fun K hK => ?_; simp (disch := omega) only [kc, prep1, slM, slZ, Nat.reduceAdd, List.replicate, ofConst, Value.oneCell']; (with_reducible refine hK _ ?_))
  (refine WpA_sreg [⟨0, _, _, _, c1⟩, ⟨4, _, _, _, c2⟩, ⟨5, _, _, _, c3⟩, ⟨6, _, _, _, c4⟩, ⟨10, _, _, _, c5⟩, ⟨11, _, _, _, c6⟩] [] (by simp) fun K hK => ?_; simp (disch := omega) only [kc, tZ, decF, slM, slZ, CItem.a, prep1, Nat.reduceAdd, opS_call, newS, effA, List.find?_cons, evAll, ofConst, Value.oneCell', norm, CallRes.plain, rawTV, rawAV, normOk, noRefTV, noRefAV, renTV, renAV, Nat.reduceBEq, isPure, effM, evBin, wrapI, hle]; (with_reducible refine hK _ ?_))
  (refine WpA_ret ⟨.inr rfl, ret_now rfl ?_ rfl⟩; simp (disch := omega) only [resA, Tryz.results120, resOne, List.getElem?_cons_succ, List.getElem?_cons_zero])
set_option maxRecDepth 100000 in
set_option maxHeartbeats 8000000 in
theorem Lovasz_C (n : Nat) (f : Nat → Nat → Int) (i : Nat) (hn : n ≤ 16) (hi : i < n) (h0 : 0 < i) (hf : ∀ i j, i < n → j < n → Sz (f i j) 1024) :
    CallC Tryz.prog 126 [slM (mat n n f), slZ (ldF n f), .raw (.int .i64 (i : Int))] ⟨[], .raw (.bool (decide (3 * (dd f i * dd f i) ≤ 4 * (dd f (i - 1) * dd f (i + 1) + lam f i (i - 1) * lam f i (i - 1)))))⟩ := by
  have hl := lam_sz (j := i - 1) hn hi (by omega) hf
  have d0 := dd_sz (k := i - 1) hn (by omega) hf
  have d1 := dd_sz (k := i) hn (by omega) hf
  have d2 := dd_sz (k := i + 1) hn (by omega) hf
  have c0 := Lambda_C n f i (i - 1) hn hi (by omega) hf
  have c1 := minor_C n f (i - 1) hn (by omega)
  have c2 := minor_C n f (i + 1) hn (by omega)
  have c3 := minor_C n f i hn (by omega)
  rw [show ((i + 1 : Nat) : Int) = (i : Int) + 1 by omega] at c2
  rw [show ((i - 1 : Nat) : Int) = (i : Int) - 1 by omega] at c0 c1
  have s4 := small_C 4 (by omega) (by omega)
  have s3 := small_C 3 (by omega) (by omega)
  generalize lam f i (i - 1) = l at *
  generalize dd f (i - 1) = a at *
  generalize dd f (i + 1) = b at *
  generalize dd f i = d at *
  have z1 : Sz (a * b) 134348800 := (d0.mul d2).mono (by omega)
  have z2 : Sz (l * l) 134348800 := (hl.mul hl).mono (by omega)
  have z3 : Sz (a * b + l * l) 134348801 := z1.add z2
  have z4 : Sz (4 * (a * b + l * l)) 134348802 := (Sz.mul (sz_lt (k := 1) (by decide) (by omega)) z3).mono (by omega)
  have z5 : Sz (d * d) 134348800 := (d1.mul d1).mono (by omega)
  have z6 : Sz (3 * (d * d)) 134348802 := (Sz.mul (sz_lt (k := 1) (by decide) (by omega)) z5).mono (by omega)
  have m1 := Mul_C a b (d0.mono (by omega)) (d2.mono (by omega))
  have m2 := Mul_C l l (hl.mono (by omega)) (hl.mono (by omega))
  have m3 := Add_C (a * b) (l * l) (z1.mono (by omega)) (z2.mono (by omega))
  have m4 := Mul_C 4 (a * b + l * l) (sz_lt (by decide) (by omega)) (z3.mono (by omega))
  have m5 := Mul_C d d (d1.mono (by omega)) (d1.mono (by omega))
  have m6 := Mul_C 3 (d * d) (sz_lt (by decide) (by omega)) (z5.mono (by omega))
  have m7 := Cmp_C (4 * (a * b + l * l)) (3 * (d * d)) (z4.mono (by omega)) (z6.mono (by omega))
  have hge := cmpZ_ge (4 * (a * b + l * l)) (3 * (d * d))
  refine callC_of Tryz.func126 rfl (by kernel_rfl) ?_; rw [Tryz.ntmps126]
  (refine WpA_sreg [] [] (by simp) fun K hK => ?_; simp (disch := omega) only [kc, prep1, slM, slZ, Nat.reduceAdd, List.replicate, ofConst, Value.oneCell']; (with_reducible refine hK _ ?_))
  (refine WpA_sreg [⟨4, _, _, _, c0⟩] [] (by simp) fun K hK => ?_; simp (disch := omega) only [kc, slM, tZ, CItem.a, prep1, Nat.reduceAdd, effM, ofConst, Value.oneCell', evBin, wrapI, opS_call, newS, effA, List.find?_cons, evAll, norm, CallRes.plain, rawTV, rawAV, normOk, noRefTV, noRefAV, renTV, renAV, opS_alloc, ty_zero51, ifT, opS_store, wrS, effD, ty_sz51, updH, cellsOf, Nat.le_refl, isPure, putCells, killTV, killAV]; (with_reducible refine hK _ ?_))
  (refine WpA_sdraw mixedA [⟨0, _, _, _, s4⟩, ⟨4, _, _, _, c1⟩, ⟨8, _, _, _, c2⟩, ⟨9, _, _, _, m1⟩, ⟨12, _, _, _, m2⟩, ⟨13, _, _, _, m3⟩, ⟨14, _, _, _, m4⟩] [] (by kernel_rfl) (by simp) fun K hK => ?_; simp (disch := omega) only [kc, tZ, decF, slZ, CItem.a, prep1, Nat.reduceAdd, opS_call, newS, effA, List.find?_cons, evAll, ofConst, Value.oneCell', norm, CallRes.plain, rawTV, rawAV, normOk, noRefTV, noRefAV, renTV, renAV, effM, evBin, wrapI, Nat.reduceBEq, isPure, effR, updH, ifF, packT, ty_sz51, ty_agg51, Nat.le_refl, opS_alloc, ty_zero51, ifT, Nat.reduceEqDiff, opS_store, wrS, effD, cellsOf, putCells, killTV, killAV]; (with_reducible refine hK _ ?_))
  (refine WpA_sdraw mixedA [⟨1, _, _, _, s3⟩, ⟨4, _, _, _, c3⟩, ⟨7, _, _, _, c3⟩, ⟨8, _, _, _, m5⟩, ⟨9, _, _, _, m6⟩, ⟨10, _, _, _, m7⟩] [] (by kernel_rfl) (by simp) fun K hK => ?_; simp (disch := omega) only [kc, tZ, decF, slZ, CItem.a, prep1, Nat.reduceAdd, effR, updH, Nat.reduceEqDiff, ifF, packT, ty_sz51, ty_agg51, Nat.le_refl, opS_call, newS, effA, List.find?_cons, evAll, ofConst, Value.oneCell', norm, CallRes.plain, rawTV, rawAV, normOk, noRefTV, noRefAV, renTV, renAV, Nat.reduceBEq, isPure, effM, evBin, hge]; (with_reducible refine hK _ ?_))
  (refine WpA_ret ⟨.inr rfl, ret_now rfl ?_ rfl⟩; simp (disch := omega) only [resA, Tryz.results126, resOne, List.getElem?_cons_succ, List.getElem?_cons_zero])
structure RdG (n : Nat) (f : Nat → Nat → Int) where
  i : Nat
  hi : i ≤ n
  ok : ∀ a, a < i → (∀ b, b < a → SizF f a b) ∧ (0 < a → LovF f a)
structure RdJ (n i : Nat) (f : Nat → Nat → Int) where
  j : Nat
  hj : j ≤ i
  ok : ∀ b, b < j → SizF f i b
set_option maxRecDepth 100000 in
set_option maxHeartbeats 8000000 in
theorem reduced_C (n : Nat) (f : Nat → Nat → Int) (hn1 : 1 ≤ n) (hn : n ≤ 16) (hf : ∀ i j, i < n → j < n → Sz (f i j) 1024) (r : Bool) (hr : r = true ↔ RefF f n) :
    CallC Tryz.prog 84 [slM (mat n n f)] ⟨[], .raw (.bool r)⟩ := by
  have hL := Leading_C n f hn1 hn hf
  have hml := mat_len n n f
  refine callC_of Tryz.func84 rfl (by kernel_rfl) ?_; rw [Tryz.ntmps84]
  (refine WpA_sreg [] [] (by simp) fun K hK => ?_; simp (disch := omega) only [kc, prep1, slM, List.replicate, ofConst, Value.oneCell']; (with_reducible refine hK _ ?_))
  (refine WpA_sreg [⟨1, _, _, _, hL⟩] [] (by simp) fun K hK => ?_; simp (disch := omega) only [kc, slM, ldT, CItem.a, prep1, Nat.reduceAdd, opS_call, newS, effA, List.find?_cons, evAll, norm, CallRes.plain, rawTV, rawAV, normOk, noRefTV, noRefAV, renTV, renAV, opS_extract, effM]; (with_reducible refine hK _ ?_))
  (refine WpA_seq (WpA_sreg [] [] (by simp) fun K hK => ?_); simp (disch := omega) only [kc, prep1, Nat.reduceAdd, opS_len, effR, ty_slice62, ls_len, hml, ofConst, Value.oneCell']; (with_reducible refine hK _ ?_))
  refine WpA_forb (G := RdG n f) (fun g => ⟨[slM (mat n n f), jk, .raw (.bool false), slZ (ldF n f), jk, jk, jk, jk, jk, jk, jk, jk, jk, .raw (.int .i64 (n : Int)), .raw (.int .i64 (g.i : Int)), jk, jk, jk, jk, jk, jk, jk, jk, jk, jk, jk, jk, jk, jk, jk, jk, jk, jk, jk, jk, jk, jk, jk], Hm []⟩) (fun g => n - g.i) ⟨0, by omega, fun a ha => by omega⟩ ?_ ?_
  · refine Weak_sub trivial ?_
    simp [wkL, okTV, okAV]
  · rintro ⟨i, hi, ok⟩
    simp only
    by_cases hm : i < n
    · (refine WpA_sreg [] [] (by simp) fun K hK => ?_; simp (disch := omega) only [kc, prep1, slM, slZ, Hm, effM, evBin, decT]; (with_reducible refine hK _ ?_))
      refine WpA_seq (WpA_cond rfl (fun _ => WpA_skip ?_) (fun h => by simp at h <;> omega))
      refine WpA_seq (WpA_block ?_)
      (refine WpA_sreg [] [] (by simp) fun K hK => ?_; simp (disch := omega) only [kc, prep1]; (with_reducible refine hK _ ?_))
      (refine WpA_seq (WpA_sreg [] [] (by simp) fun K hK => ?_); simp (disch := omega) only [kc, prep1, ofConst, Value.oneCell']; (with_reducible refine hK _ ?_))
      refine WpA_forb (G := RdJ n i f) (fun g => ⟨[slM (mat n n f), jk, .raw (.bool false), slZ (ldF n f), jk, .raw (.int .i64 (i : Int)), .raw (.int .i64 (g.j : Int)), jk, jk, jk, jk, jk, jk, .raw (.int .i64 (n : Int)), .raw (.int .i64 (i : Int)), jk, jk, jk, jk, jk, jk, jk, jk, jk, jk, jk, jk, jk, jk, jk, jk, jk, jk, jk, jk, jk, jk, jk], Hm []⟩) (fun g => i - g.j) ⟨0, by omega, fun a ha => by omega⟩ ?_ ?_
      · refine Weak_sub trivial ?_
        simp [wkL, okTV, okAV]
      · rintro ⟨j, hj, okj⟩
        simp only
        by_cases hm2 : j < i
        · have c1 := Sized_C n f i j hn hm (by omega) hf
          by_cases hs : SizF f i j
          · rw [decide_eq_true (show 2 * ((lam f i j).natAbs : Int) ≤ dd f (j + 1) from hs)] at c1
            (refine WpA_seq (WpA_sreg [] [] (by simp) fun K hK => ?_); simp (disch := omega) only [kc, prep1, Nat.reduceAdd, slM, slZ, Hm, effM, evBin, decT]; (with_reducible refine hK _ ?_))
            refine WpA_cond rfl (fun _ => WpA_skip ?_) (fun h => by simp at h <;> omega)
            refine WpA_seq (WpA_block ?_)
            (refine WpA_sreg [⟨4, _, _, _, c1⟩] [] (by simp) fun K hK => ?_; simp (disch := omega) only [kc, slM, slZ, CItem.a, prep1, Nat.reduceAdd, opS_call, newS, effA, List.find?_cons, evAll, norm, CallRes.plain, rawTV, rawAV, normOk, noRefTV, noRefAV, renTV, renAV, opS_un, effM, evUn]; (with_reducible refine hK _ ?_))
            refine WpA_cond rfl (fun h => by simp at h) (fun _ => WpA_skip ?_)
            show WpA _ _ _ _
            ((refine WpA_lreg [] [] (by simp) fun K hK => ?_); simp (disch := omega) only [kc, prep1, Nat.reduceAdd, effM, ofConst, Value.oneCell', evBin, wrapI]; (with_reducible refine hK _ ?_))
            refine ⟨⟨j + 1, by omega, fun b hb => ?_⟩, by simp only; omega, Weak_sub trivial ?_⟩
            · by_cases e : b = j
              · subst e; exact hs
              · exact okj b (by omega)
            · simp [wkL, okTV, okAV]
          · have hr0 : r = false := by
              cases r with
              | false => rfl
              | true => exact absurd ((hr.1 rfl i hm).1 j hm2) hs
            subst hr0
            rw [decide_eq_false (show ¬ 2 * ((lam f i j).natAbs : Int) ≤ dd f (j + 1) from hs)] at c1
            (refine WpA_seq (WpA_sreg [] [] (by simp) fun K hK => ?_); simp (disch := omega) only [kc, prep1, Nat.reduceAdd, slM, slZ, Hm, effM, evBin, decT]; (with_reducible refine hK _ ?_))
            refine WpA_cond rfl (fun _ => WpA_skip ?_) (fun h => by simp at h <;> omega)
            refine WpA_seq (WpA_block ?_)
            (refine WpA_sreg [⟨4, _, _, _, c1⟩] [] (by simp) fun K hK => ?_; simp (disch := omega) only [kc, slM, slZ, CItem.a, prep1, Nat.reduceAdd, opS_call, newS, effA, List.find?_cons, evAll, norm, CallRes.plain, rawTV, rawAV, normOk, noRefTV, noRefAV, renTV, renAV, opS_un, effM, evUn, Bool.not_false]; (with_reducible refine hK _ ?_))
            refine WpA_cond rfl (fun _ => ?_) (fun h => by simp at h)
            (refine WpA_sreg [] [] (by simp) fun K hK => ?_; simp (disch := omega) only [kc, prep1, ofConst, Value.oneCell']; (with_reducible refine hK _ ?_))
            (refine WpA_ret ⟨.inr rfl, ret_now rfl ?_ rfl⟩; simp (disch := omega) only [resA, Tryz.results84, resOne, List.getElem?_cons_succ, List.getElem?_cons_zero])
        · have hji : j = i := by omega
          subst hji
          (refine WpA_seq (WpA_sreg [] [] (by simp) fun K hK => ?_); simp (disch := omega) only [kc, prep1, Nat.reduceAdd, slM, slZ, Hm, effM, evBin, decF]; (with_reducible refine hK _ ?_))
          refine WpA_cond rfl (fun h => by simp at h <;> omega) (fun _ => WpA_exit ?_)
          show WpA _ _ _ _
          by_cases h0 : 0 < j
          · have c1 := Lovasz_C n f j hn hm h0 hf
            by_cases hs : LovF f j
            · rw [decide_eq_true (show 3 * (dd f j * dd f j) ≤ 4 * (dd f (j - 1) * dd f (j + 1) + lam f j (j - 1) * lam f j (j - 1)) from hs)] at c1
              (refine WpA_sreg [⟨6, _, _, _, c1⟩] [] (by simp) fun K hK => ?_; simp (disch := omega) only [kc, slM, slZ, CItem.a, prep1, Nat.reduceAdd, effM, ofConst, Value.oneCell', evBin, decT, stS_guard, opS_call, newS, effA, List.find?_cons, evAll, norm, CallRes.plain, rawTV, rawAV, normOk, noRefTV, noRefAV, renTV, renAV, ifT, opS_un, evUn, opS_pick]; (with_reducible refine hK _ ?_))
              refine WpA_cond rfl (fun h => by simp at h) (fun _ => WpA_skip ?_)
              show WpA _ _ _ _
              ((refine WpA_lreg [] [] (by simp) fun K hK => ?_); simp (disch := omega) only [kc, prep1, effM, ofConst, Value.oneCell', evBin, wrapI]; (with_reducible refine hK _ ?_))
              refine ⟨⟨j + 1, by omega, fun a ha => ?_⟩, by simp only; omega, Weak_sub trivial ?_⟩
              · by_cases e : a = j
                · subst e; exact ⟨okj, fun _ => hs⟩
                · exact ok a (by omega)
              · simp [wkL, okTV, okAV]
            · have hr0 : r = false := by
                cases r with
                | false => rfl
                | true => exact absurd ((hr.1 rfl j hm).2 h0) hs
              subst hr0
              rw [decide_eq_false (show ¬ 3 * (dd f j * dd f j) ≤ 4 * (dd f (j - 1) * dd f (j + 1) + lam f j (j - 1) * lam f j (j - 1)) from hs)] at c1
              (refine WpA_sreg [⟨6, _, _, _, c1⟩] [] (by simp) fun K hK => ?_; simp (disch := omega) only [kc, slM, slZ, CItem.a, prep1, Nat.reduceAdd, effM, ofConst, Value.oneCell', evBin, decT, stS_guard, opS_call, newS, effA, List.find?_cons, evAll, norm, CallRes.plain, rawTV, rawAV, normOk, noRefTV, noRefAV, renTV, renAV, ifT, opS_un, evUn, Bool.not_false, opS_pick]; (with_reducible refine hK _ ?_))
              refine WpA_cond rfl (fun _ => ?_) (fun h => by simp at h)
              (refine WpA_sreg [] [] (by simp) fun K hK => ?_; simp (disch := omega) only [kc, prep1, ofConst, Value.oneCell']; (with_reducible refine hK _ ?_))
              (refine WpA_ret ⟨.inr rfl, ret_now rfl ?_ rfl⟩; simp (disch := omega) only [resA, Tryz.results84, resOne, List.getElem?_cons_succ, List.getElem?_cons_zero])
          · have hj0 : j = 0 := by omega
            subst hj0
            (refine WpA_sreg [] [] (by simp) fun K hK => ?_; simp (disch := omega) only [kc, prep1, Nat.reduceAdd, effM, ofConst, Value.oneCell', evBin, decF, stS_guard, opS_call, newS, effA, List.find?_nil, evAll, opS_un, Option.map_none, opS_pick]; (with_reducible refine hK _ ?_))
            refine WpA_cond rfl (fun h => by simp at h) (fun _ => WpA_skip ?_)
            show WpA _ _ _ _
            ((refine WpA_lreg [] [] (by simp) fun K hK => ?_); simp (disch := omega) only [kc, prep1, effM, ofConst, Value.oneCell', evBin, wrapI]; (with_reducible refine hK _ ?_))
            refine ⟨⟨1, by omega, fun a ha => ?_⟩, by simp only; omega, Weak_sub trivial ?_⟩
            · have : a = 0 := by omega
              subst this
              exact ⟨fun b hb => by omega, fun h => by omega⟩
            · simp [wkL, okTV, okAV]
    · have hr1 : r = true := hr.2 fun a ha => ok a (by omega)
      subst hr1
      (refine WpA_sreg [] [] (by simp) fun K hK => ?_; simp (disch := omega) only [kc, prep1, slM, slZ, Hm, effM, evBin, decF]; (with_reducible refine hK _ ?_))
      refine WpA_seq (WpA_cond rfl (fun h => by simp at h <;> omega) (fun _ => WpA_exit ?_))
      show WpA _ _ _ _
      (refine WpA_sreg [] [] (by simp) fun K hK => ?_; simp (disch := omega) only [kc, prep1, ofConst, Value.oneCell']; (with_reducible refine hK _ ?_))
      (refine WpA_ret ⟨.inr rfl, ret_now rfl ?_ rfl⟩; simp (disch := omega) only [resA, Tryz.results84, resOne, List.getElem?_cons_succ, List.getElem?_cons_zero])
end Go.Proofs.YtennjcjjegbhgaaGreat
namespace Go.Proofs.YtennjcjjegbhgaaGreat
open Go.RowKit
def validM (rows : List (List Int)) (x : List Int) : Bool := isReducedM rows && FitB rows.length x
set_option maxHeartbeats 400000 in
theorem valid_any (A B : Option Addr) (c d : Nat) (rows : List (List Int)) (x : List Int) (w : World) (hR : RdM .i64 w A rows) (hx : RdI .i64 w B x) (lr : rows.length ≤ 9223372036854775807) (hc : rows.length ≤ c) (lx : x.length ≤ 9223372036854775807) :
    Calls Tryz.prog 15 #[.slice A rows.length c, .slice B x.length d] w fun e w' => e = .returned (.bool (validM rows x)) ∧ Ext w w' := by
  have HR := Lib.hid hR
  have HX := Lib.hid hx
  clear hR hx
  cases hI : isReducedM rows with
  | false =>
    have HV : Hid (validM rows x = false) := Lib.hid (by simp [validM, hI])
    go_enter Tryz.func15, Tryz.ntmps15
    go_wp2_with (go_at_call 42; refine (isReduced_any A c rows _ HR.out lr hc).mono ?_; rintro e w1 ⟨rfl, he⟩)
    go_ret
    exact ⟨ret_bool HV.out.symm, he⟩
  | true =>
    have HV : Hid (validM rows x = FitB rows.length x) := Lib.hid (by simp [validM, hI])
    go_enter Tryz.func15, Tryz.ntmps15
    go_wp2_with (first | (go_at_call 42; refine (isReduced_any A c rows _ HR.out lr hc).mono ?_; rintro e w1 ⟨rfl, he⟩; have HE := Lib.hid he; clear he) | (go_at_call 43; refine (fits_any rows.length B d x _ (HX.out.ext HE.out) lx).mono ?_; rintro e w2 ⟨rfl, rfl⟩))
    go_ret
    exact ⟨ret_bool HV.out.symm, HE.out⟩
def innerV (rows : List (List Int)) (x y : List Int) : Value :=
  if validM rows x = true ∧ FitB rows.length y = true then dotV (accZ x (applyM rows y) x.length) else .tuple #[.int .i64 0, .bool false]
set_option maxHeartbeats 1000000 in
theorem inner_any (A B C : Option Addr) (c d d' : Nat) (rows : List (List Int)) (x y : List Int) (w : World) (hR : RdM .i64 w A rows) (hx : RdI .i64 w B x) (hy : RdI .i64 w C y) (lr : rows.length ≤ 9223372036854775807) (hc : rows.length ≤ c) (lx : x.length ≤ 9223372036854775807) (ly : y.length ≤ 9223372036854775807) :
    Calls Tryz.prog 20 #[.slice A rows.length c, .slice B x.length d, .slice C y.length d'] w fun e w' => e = .returned (innerV rows x y) ∧ Ext w w' := by
  have HR := Lib.hid hR
  have HX := Lib.hid hx
  have HY := Lib.hid hy
  clear hR hx hy
  cases hI : validM rows x with
  | false =>
    have HV : Hid (innerV rows x y = .tuple #[.int .i64 0, .bool false]) := Lib.hid (by unfold innerV; rw [if_neg (by simp [hI])])
    go_enter Tryz.func20, Tryz.ntmps20
    go_wp2_with (go_at_call 15; refine (valid_any A B c d rows x _ HR.out HX.out lr hc lx).mono ?_; rintro e w1 ⟨rfl, he⟩)
    go_ret2
    exact ⟨by rw [HV.out]; rfl, he⟩
  | true =>
    cases hF : FitB rows.length y with
    | false =>
      have HV : Hid (innerV rows x y = .tuple #[.int .i64 0, .bool false]) := Lib.hid (by unfold innerV; rw [if_neg (by simp [hF])])
      go_enter Tryz.func20, Tryz.ntmps20
      go_wp2_with (first | (go_at_call 15; refine (valid_any A B c d rows x _ HR.out HX.out lr hc lx).mono ?_; rintro e w1 ⟨rfl, he⟩; have HE := Lib.hid he; clear he) | (go_at_call 43; refine (fits_any rows.length C d' y _ (HY.out.ext HE.out) ly).mono ?_; rintro e w2 ⟨rfl, rfl⟩))
      go_ret2
      exact ⟨by rw [HV.out]; rfl, HE.out⟩
    | true =>
      have HV : Hid (innerV rows x y = dotV (accZ x (applyM rows y) x.length)) := Lib.hid (by unfold innerV; rw [if_pos ⟨hI, hF⟩])
      have hI' := hI
      unfold validM at hI'
      rw [Bool.and_eq_true, FitB_iff] at hI'
      obtain ⟨hr, hxl, hxb⟩ := hI'
      have hs := isReducedM_small hr
      have h8 : rows.length ≤ 8 := hs.2.1
      obtain ⟨hyl, hyb⟩ := FitB_iff.1 hF
      have hxle : x.length ≤ rows.length := by omega
      have hxge : rows.length ≤ x.length := by omega
      have hyge : rows.length ≤ y.length := by omega
      have HS := Lib.hid hs
      have HYB := Lib.hid hyb
      have HXB := Lib.hid hxb
      have HA := Lib.hid (applyM_bd hs hyb)
      have HAL := Lib.hid (applyM_length rows y)
      clear hr hxl hs hyl hyb hxb
      go_enter Tryz.func20, Tryz.ntmps20
      go_wp2_with (first | (go_at_call 15; refine (valid_any A B c d rows x _ HR.out HX.out lr hc lx).mono ?_; rintro e w1 ⟨rfl, he⟩; have HE := Lib.hid he; clear he) | (go_at_call 43; refine (fits_any rows.length C d' y _ (HY.out.ext HE.out) ly).mono ?_; rintro e w2 ⟨rfl, rfl⟩))
      refine (apply_any A C c d' rows y _ (HR.out.ext HE.out) (HY.out.ext HE.out) (by omega) (fun i hi => by rw [HS.out.2.2.1 i hi]; exact hyge) ly).mono ?_
      rintro e w2 ⟨rfl, hrd, he2⟩
      have HE2 := Lib.hid (HE.out.trans he2)
      have HRD := Lib.hid hrd
      clear hrd he2
      go_wp2_with fail
      have hcon := dot_any B (some ⟨w1.heap.size, 0, none⟩) d rows.length x (applyM rows y) w2 (HX.out.ext HE2.out) HRD.out (by rw [HAL.out]; exact hxle) (by omega) (by rw [HAL.out]; omega) (fun i z hz => InB_bounds HXB.out hz) HA.out
      rw [HAL.out] at hcon
      refine hcon.mono ?_
      rintro e w3 ⟨rfl, he3⟩
      have HE3 := Lib.hid (HE2.out.trans he3)
      clear he3 hcon
      have HD : Hid (∃ a b, dotV (accZ x (applyM rows y) x.length) = .tuple #[a, b]) := Lib.hid (by unfold dotV; split <;> exact ⟨_, _, rfl⟩)
      obtain ⟨va, vb, hd⟩ := HD.out
      rw [hd]
      have HDD := Lib.hid hd
      clear hd
      go_wp2_with fail
      go_ret2
      exact ⟨by rw [HV.out, HDD.out]; rfl, HE3.out⟩
set_option maxHeartbeats 400000 in
theorem norm_any (A B : Option Addr) (c d : Nat) (rows : List (List Int)) (x : List Int) (w : World) (hR : RdM .i64 w A rows) (hx : RdI .i64 w B x) (lr : rows.length ≤ 9223372036854775807) (hc : rows.length ≤ c) (lx : x.length ≤ 9223372036854775807) :
    Calls Tryz.prog 18 #[.slice A rows.length c, .slice B x.length d] w fun e w' => e = .returned (innerV rows x x) ∧ Ext w w' := by
  have HD : Hid (∃ a b, innerV rows x x = .tuple #[a, b]) := Lib.hid (by unfold innerV dotV; split <;> (try split) <;> exact ⟨_, _, rfl⟩)
  have hcon := inner_any A B B c d d rows x x w hR hx hx lr hc lx lx
  obtain ⟨va, vb, hd⟩ := HD.out
  rw [hd] at hcon
  rw [hd]
  have HC := Lib.hid hcon
  clear hcon hd HD
  go_enter Tryz.func18, Tryz.ntmps18
  go_wp2_with (go_at_call 20; refine HC.out.mono ?_; rintro e w1 ⟨rfl, he⟩)
  go_ret2
  exact ⟨rfl, he⟩
end Go.Proofs.YtennjcjjegbhgaaGreat
