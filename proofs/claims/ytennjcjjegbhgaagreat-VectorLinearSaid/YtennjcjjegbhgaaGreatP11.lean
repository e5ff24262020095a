/-
  Part 12 of a proof (walks and plain facts).
-/
import Derived.Test.YtennjcjjegbhgaaGreatP10
set_option linter.all false
namespace Go.Proofs.YtennjcjjegbhgaaGreat
open Go.RowKit
def I64 (z : Int) : Prop := -9223372036854775808 ≤ z ∧ z ≤ 9223372036854775807
theorem I64.sz {z : Int} (h : I64 z) {k : Nat} (hk : 2 ≤ k) : Sz z k := by
  have : Sz z 2 := by
    unfold Sz
    have := h.1
    have := h.2
    rw [show (4294967296 : Nat) ^ 2 = 18446744073709551616 by decide]
    omega
  exact this.mono hk
def MI (M : List (List Int)) : Prop := ∀ r ∈ M, ∀ z ∈ r, I64 z
theorem MI.ent {M : List (List Int)} (h : MI M) (i j : Nat) : I64 (ent M i j) := by
  simp only [Go.Proofs.YtennjcjjegbhgaaGreat.ent, List.getD_eq_getElem?_getD]
  cases hr : M[i]? with
  | none => simp [I64]
  | some r =>
    simp only [Option.getD_some]
    cases hz : r[j]? with
    | none => simp [I64]
    | some z => exact h r (List.mem_of_getElem? hr) z (List.mem_of_getElem? hz)
theorem sq_mat {n c : Nat} {f : Nat → Nat → Int} (hn : 1 ≤ n) : Sq (mat n c f) ↔ n = c := by
  unfold Sq
  rw [mat_len]
  have e : ∀ i, i < n → ((mat n c f).getD i []).length = c := fun i hi => by
    rw [List.getD_eq_getElem?_getD, mat_get _ _ hi, Option.getD_some, rowF_len]
  exact ⟨fun h => by rw [← e 0 (by omega), h 0 (by omega)], fun h i hi => by rw [e i hi, h]⟩
theorem RedR_congr {f g : Nat → Nat → Int} {n : Nat} (h : ∀ i j, i < n → j < n → f i j = g i j) (hf : RedR f n) : RedR g n := by
  obtain ⟨h1, h2, h3, h4⟩ := hf
  have ed : ∀ k, k ≤ n → dk g k = dk f k := fun k hk => dk_congr fun i j hi hj => (h i j (by omega) (by omega)).symm
  have eb : ∀ t i, t < n → i < n → bk g t i t = bk f t i t := fun t i ht hi => by
    have e1 : dk (lamF g i t) (t + 1) = bk g t i t := dk_row (fun r c hr hc => by unfold lamF; rw [if_pos hr]) (fun c hc => by unfold lamF; rw [if_neg (by omega)])
    have e2 : dk (lamF f i t) (t + 1) = bk f t i t := dk_row (fun r c hr hc => by unfold lamF; rw [if_pos hr]) (fun c hc => by unfold lamF; rw [if_neg (by omega)])
    rw [← e1, ← e2]
    refine dk_congr fun r c hr hc => ?_
    unfold lamF
    split
    · exact (h r c (by omega) (by omega)).symm
    · exact (h i c hi (by omega)).symm
  refine ⟨fun i hi j hj => by rw [← h i j hi hj, ← h j i hj hi]; exact h1 i hi j hj, fun k hk => by rw [ed (k + 1) (by omega)]; exact h2 k hk, by rw [ed n (by omega)]; exact h3, fun t ht => ⟨fun i hi hti => ?_, ?_⟩⟩
  · have := (h4 t ht).1 i hi hti
    rw [ed (t + 1) (by omega), eb t i (by omega) hi]; exact this
  · have := (h4 t ht).2
    unfold Lov at *
    rw [ed (t + 1) (by omega), ed t (by omega), ed (t + 1 + 1) (by omega), eb t (t + 1) (by omega) (by omega)]; exact this
theorem RedP_mat {n c : Nat} {f : Nat → Nat → Int} (hn1 : 1 ≤ n) : RedP (mat n c f) ↔ n = c ∧ n ≤ 8 ∧ RedR f n := by
  unfold RedP
  rw [mat_len, sq_mat hn1]
  constructor
  · rintro ⟨_, h8, rfl, hr⟩
    exact ⟨rfl, h8, RedR_congr (fun i j hi hj => ent_mat f hi hj) hr⟩
  · rintro ⟨rfl, h8, hr⟩
    exact ⟨hn1, h8, rfl, RedR_congr (fun i j hi hj => (ent_mat f hi hj).symm) hr⟩
set_option maxRecDepth 100000 in
set_option maxHeartbeats 8000000 in
theorem IsReduced_C (M : List (List Int)) (hM : MI M) : CallC Tryz.prog 44 [slI M] ⟨[], .raw (.bool (isReducedM M))⟩ := by
  have hr := isReducedM_iff M
  generalize isReducedM M = r at *
  by_cases hS : ShP M
  · obtain ⟨n, c, f, rfl, hn1, hn, hc1, hc, hf⟩ : ∃ n c f, M = mat n c f ∧ 1 ≤ n ∧ n ≤ 16 ∧ 1 ≤ c ∧ c ≤ 16 ∧ ∀ i j : Nat, I64 (f i j) := by
      have h0 := headD_at (M := M) hS.1
      have hh := hS.2.2 _ (List.mem_of_getElem? h0)
      exact ⟨M.length, (M.headD []).length, ent M, ShP_mat hS, hS.1, hS.2.1, hh.1, hh.2.1, fun i j => hM.ent i j⟩
    rw [RedP_mat hn1] at hr
    have hF := FromInts_C n c f hn1 hn hc1 hc (fun i j _ _ => hf i j)
    obtain ⟨e, he, hV⟩ := Validate_C n c f hn1 hn hc1 hc (fun i j _ _ => (hf i j).sz (by omega))
    by_cases h1 : e = 0
    · obtain ⟨rfl, h8, hs, hp⟩ := he.1 h1
      subst h1
      have hD := small8_C n f hn1 hn (fun i j _ _ => (hf i j).sz (by omega))
      by_cases h2 : detF n f ≤ 10000
      · rw [decide_eq_true h2] at hD
        have hR := reduced_C n f hn1 hn (fun i j _ _ => (hf i j).sz (by omega)) r (by
          rw [hr, ← ref_iff hn1]
          exact ⟨fun h => h.2.2.2.2.2, fun h => ⟨rfl, h8, hs, hp, h2, h⟩⟩)
        refine callC_of Tryz.func44 rfl (by kernel_rfl) ?_; rw [Tryz.ntmps44]
        (refine WpA_sreg [] [] (by simp) fun K hK => ?_; simp (disch := omega) only [kc, prep1, slI, List.replicate, ofConst, Value.oneCell']; (with_reducible refine hK _ ?_))
        (refine WpA_sreg [⟨1, _, _, _, hF⟩] [] (by simp) fun K hK => ?_; simp (disch := omega) only [kc, slI, fiY, CItem.a, prep1, Nat.reduceAdd, opS_call, newS, effA, List.find?_cons, evAll, norm, CallRes.plain, rawTV, rawAV, normOk, noRefTV, noRefAV, renTV, renAV, opS_extract, effM]; (with_reducible refine hK _ ?_))
        (refine WpA_sreg [⟨3, _, _, _, hV⟩, ⟨8, _, _, _, hD⟩, ⟨12, _, _, _, hR⟩] [] (by simp) fun K hK => ?_; simp (disch := omega) only [kc, slM, CItem.a, prep1, Nat.reduceAdd, stS_guard, opS_call, newS, effA, List.find?_cons, evAll, norm, CallRes.plain, rawTV, rawAV, normOk, noRefTV, noRefAV, renTV, renAV, ifT, effM, ofConst, Value.oneCell', evBin, decT, opS_pick, Nat.reduceBEq]; (with_reducible refine hK _ ?_))
        (refine WpA_ret ⟨.inr rfl, ret_now rfl ?_ rfl⟩; simp (disch := omega) only [resA, Tryz.results44, resOne, List.getElem?_cons_succ, List.getElem?_cons_zero])
      · have hr0 : r = false := by
          cases r with
          | false => rfl
          | true => exact absurd ((ref_iff hn1).2 (hr.1 rfl).2.2).2.2.1 h2
        subst hr0
        rw [decide_eq_false h2] at hD
        refine callC_of Tryz.func44 rfl (by kernel_rfl) ?_; rw [Tryz.ntmps44]
        (refine WpA_sreg [] [] (by simp) fun K hK => ?_; simp (disch := omega) only [kc, prep1, slI, List.replicate, ofConst, Value.oneCell']; (with_reducible refine hK _ ?_))
        (refine WpA_sreg [⟨1, _, _, _, hF⟩] [] (by simp) fun K hK => ?_; simp (disch := omega) only [kc, slI, fiY, CItem.a, prep1, Nat.reduceAdd, opS_call, newS, effA, List.find?_cons, evAll, norm, CallRes.plain, rawTV, rawAV, normOk, noRefTV, noRefAV, renTV, renAV, opS_extract, effM]; (with_reducible refine hK _ ?_))
        (refine WpA_sreg [⟨3, _, _, _, hV⟩, ⟨8, _, _, _, hD⟩] [] (by simp) fun K hK => ?_; simp (disch := omega) only [kc, slM, CItem.a, prep1, Nat.reduceAdd, stS_guard, opS_call, newS, effA, List.find?_cons, evAll, norm, CallRes.plain, rawTV, rawAV, normOk, noRefTV, noRefAV, renTV, renAV, ifT, effM, ofConst, Value.oneCell', evBin, decT, opS_pick, Nat.reduceBEq, List.find?_nil]; (with_reducible refine hK _ ?_))
        (refine WpA_ret ⟨.inr rfl, ret_now rfl ?_ rfl⟩; simp (disch := omega) only [resA, Tryz.results44, resOne, List.getElem?_cons_succ, List.getElem?_cons_zero])
    · have hr0 : r = false := by
        cases r with
        | false => rfl
        | true =>
          obtain ⟨g1, g2, g3⟩ := hr.1 rfl
          subst g1
          obtain ⟨g4, g5, _⟩ := (ref_iff hn1).2 g3
          exact absurd (he.2 ⟨rfl, g2, g4, g5⟩) h1
      subst hr0
      refine callC_of Tryz.func44 rfl (by kernel_rfl) ?_; rw [Tryz.ntmps44]
      (refine WpA_sreg [] [] (by simp) fun K hK => ?_; simp (disch := omega) only [kc, prep1, slI, List.replicate, ofConst, Value.oneCell']; (with_reducible refine hK _ ?_))
      (refine WpA_sreg [⟨1, _, _, _, hF⟩] [] (by simp) fun K hK => ?_; simp (disch := omega) only [kc, slI, fiY, CItem.a, prep1, Nat.reduceAdd, opS_call, newS, effA, List.find?_cons, evAll, norm, CallRes.plain, rawTV, rawAV, normOk, noRefTV, noRefAV, renTV, renAV, opS_extract, effM]; (with_reducible refine hK _ ?_))
      (refine WpA_sreg [⟨3, _, _, _, hV⟩] [] (by simp) fun K hK => ?_; simp (disch := omega) only [kc, slM, CItem.a, prep1, Nat.reduceAdd, stS_guard, opS_call, newS, effA, List.find?_cons, evAll, norm, CallRes.plain, rawTV, rawAV, normOk, noRefTV, noRefAV, renTV, renAV, ifT, effM, ofConst, Value.oneCell', evBin, decF, opS_pick, Nat.reduceBEq, List.find?_nil]; (with_reducible refine hK _ ?_))
      (refine WpA_ret ⟨.inr rfl, ret_now rfl ?_ rfl⟩; simp (disch := omega) only [resA, Tryz.results44, resOne, List.getElem?_cons_succ, List.getElem?_cons_zero])
  · have hF := FromInts_no M hS
    have hr0 : r = false := by
      cases r with
      | false => rfl
      | true =>
        obtain ⟨g1, g2, g3, _⟩ := hr.1 rfl
        refine absurd ⟨g1, by omega, fun x hx => ?_⟩ hS
        obtain ⟨i, hi⟩ := List.mem_iff_getElem?.1 hx
        have hl : ∀ (i : Nat) x, M[i]? = some x → x.length = M.length := fun i x hi => by
          have := g3 i (List.getElem?_eq_some_iff.1 hi).1
          rwa [List.getD_eq_getElem?_getD, hi] at this
        rw [rOk, hl i x hi, hl 0 _ (headD_at g1)]
        omega
    subst hr0
    refine callC_of Tryz.func44 rfl (by kernel_rfl) ?_; rw [Tryz.ntmps44]
    (refine WpA_sreg [] [] (by simp) fun K hK => ?_; simp (disch := omega) only [kc, prep1, slI, List.replicate, ofConst, Value.oneCell']; (with_reducible refine hK _ ?_))
    (refine WpA_sreg [⟨1, _, _, _, hF⟩] [] (by simp) fun K hK => ?_; simp (disch := omega) only [kc, slI, fiN, CItem.a, prep1, Nat.reduceAdd, opS_call, newS, effA, List.find?_cons, evAll, norm, CallRes.plain, rawTV, rawAV, normOk, noRefTV, noRefAV, renTV, renAV, opS_extract, effM]; (with_reducible refine hK _ ?_))
    (refine WpA_sreg [] [] (by simp) fun K hK => ?_; simp (disch := omega) only [kc, prep1, Nat.reduceAdd, stS_guard, opS_call, newS, effA, List.find?_nil, evAll, effM, ofConst, Value.oneCell', Option.map_none, opS_pick]; (with_reducible refine hK _ ?_))
    (refine WpA_ret ⟨.inr rfl, ret_now rfl ?_ rfl⟩; simp (disch := omega) only [resA, Tryz.results44, resOne, List.getElem?_cons_succ, List.getElem?_cons_zero])
abbrev sl1 (l : List Int) : TV := .one (.p (.sl (ls fI l)))
structure InG (x : List Int) where
  i : Nat
  hi : i ≤ x.length
  ok : ∀ j c, j < i → x[j]? = some c → -1099511627776 ≤ c ∧ c ≤ 1099511627776
set_option maxRecDepth 100000 in
set_option maxHeartbeats 8000000 in
theorem inside_C (x : List Int) : CallC Tryz.prog 67 [sl1 x] ⟨[], .raw (.bool (InB x))⟩ := by
  refine callC_len 0 (ls fI x) rfl (fun hlen => ?_) (by kernel_rfl)
  rw [ls_len] at hlen
  refine callC_of Tryz.func67 rfl (by kernel_rfl) ?_; rw [Tryz.ntmps67]
  (refine WpA_sreg [] [] (by simp) fun K hK => ?_; simp (disch := omega) only [kc, prep1, sl1, List.replicate, ofConst, Value.oneCell']; (with_reducible refine hK _ ?_))
  (refine WpA_seq (WpA_sreg [] [] (by simp) fun K hK => ?_); simp (disch := omega) only [kc, prep1, Nat.reduceAdd, opS_len, effR, ty_slice23, ls_len, ofConst, Value.oneCell']; (with_reducible refine hK _ ?_))
  refine WpA_forb (G := InG x) (fun g => ⟨[jk, jk, .raw (.bool false), jk, jk, sl1 x, .raw (.int .i64 (x.length : Int)), .raw (.int .i64 (g.i : Int)), jk, jk, jk, jk, jk, jk, jk, jk, jk, jk], Hm []⟩) (fun g => x.length - g.i) ⟨0, by omega, fun j c hj => by omega⟩ ?_ ?_
  · refine Weak_sub trivial ?_
    simp [wkL, okTV, okAV]
  · rintro ⟨i, hi, ok⟩
    simp only
    by_cases hm : i < x.length
    · obtain ⟨c, hc⟩ := getElem?_of_lt hm
      (refine WpA_sreg [] [] (by simp) fun K hK => ?_; simp (disch := omega) only [kc, prep1, sl1, Hm, effM, evBin, decT]; (with_reducible refine hK _ ?_))
      refine WpA_seq (WpA_cond rfl (fun _ => WpA_skip ?_) (fun h => by simp at h <;> omega))
      refine WpA_seq (WpA_block ?_)
      (refine WpA_sreg [] [] (by simp) fun K hK => ?_; simp (disch := omega) only [kc, prep1, Nat.reduceAdd, opS_indexAddr, effR, natOf_pos, ty_slice23, ls_get, hc, fI, ty_sz2, packT, ty_agg2]; (with_reducible refine hK _ ?_))
      by_cases h1 : c < -1099511627776
      · rw [InB_false hc (.inl h1)]
        (refine WpA_sreg [] [] (by simp) fun K hK => ?_; simp (disch := omega) only [kc, prep1, Nat.reduceAdd, effM, ofConst, Value.oneCell', evBin, decT, stS_guard, reduceCtorEq, Option.map_none, opS_pick]; (with_reducible refine hK _ ?_))
        refine WpA_cond rfl (fun _ => ?_) (fun h => by simp at h <;> omega)
        (refine WpA_sreg [] [] (by simp) fun K hK => ?_; simp (disch := omega) only [kc, prep1, ofConst, Value.oneCell']; (with_reducible refine hK _ ?_))
        (refine WpA_ret ⟨.inr rfl, ret_now rfl ?_ rfl⟩; simp (disch := omega) only [resA, Tryz.results67, resOne, List.getElem?_cons_succ, List.getElem?_cons_zero])
      by_cases h2 : 1099511627776 < c
      · rw [InB_false hc (.inr h2)]
        (refine WpA_sreg [] [] (by simp) fun K hK => ?_; simp (disch := omega) only [kc, prep1, Nat.reduceAdd, effM, ofConst, Value.oneCell', evBin, decF, stS_guard, ifT, decT, opS_pick]; (with_reducible refine hK _ ?_))
        refine WpA_cond rfl (fun _ => ?_) (fun h => by simp at h <;> omega)
        (refine WpA_sreg [] [] (by simp) fun K hK => ?_; simp (disch := omega) only [kc, prep1, ofConst, Value.oneCell']; (with_reducible refine hK _ ?_))
        (refine WpA_ret ⟨.inr rfl, ret_now rfl ?_ rfl⟩; simp (disch := omega) only [resA, Tryz.results67, resOne, List.getElem?_cons_succ, List.getElem?_cons_zero])
      (refine WpA_sreg [] [] (by simp) fun K hK => ?_; simp (disch := omega) only [kc, prep1, Nat.reduceAdd, effM, ofConst, Value.oneCell', evBin, decF, stS_guard, ifT, opS_pick]; (with_reducible refine hK _ ?_))
      refine WpA_cond rfl (fun h => by simp at h <;> omega) (fun _ => WpA_skip ?_)
      show WpA _ _ _ _
      ((refine WpA_lreg [] [] (by simp) fun K hK => ?_); simp (disch := omega) only [kc, prep1, effM, ofConst, Value.oneCell', evBin, wrapI]; (with_reducible refine hK _ ?_))
      refine ⟨⟨i + 1, by omega, upto_succ ok hc (by omega)⟩, by simp only; omega, Weak_sub trivial ?_⟩
      simp [wkL, okTV, okAV]
    · rw [InB_true (k := i) (by omega) ok]
      (refine WpA_sreg [] [] (by simp) fun K hK => ?_; simp (disch := omega) only [kc, prep1, sl1, Hm, effM, evBin, decF]; (with_reducible refine hK _ ?_))
      refine WpA_seq (WpA_cond rfl (fun h => by simp at h <;> omega) (fun _ => WpA_exit ?_))
      show WpA _ _ _ _
      (refine WpA_sreg [] [] (by simp) fun K hK => ?_; simp (disch := omega) only [kc, prep1, ofConst, Value.oneCell']; (with_reducible refine hK _ ?_))
      (refine WpA_ret ⟨.inr rfl, ret_now rfl ?_ rfl⟩; simp (disch := omega) only [resA, Tryz.results67, resOne, List.getElem?_cons_succ, List.getElem?_cons_zero])
set_option maxRecDepth 100000 in
set_option maxHeartbeats 8000000 in
theorem Fits_C (n : Nat) (x : List Int) : CallC Tryz.prog 45 [.raw (.int .i64 (n : Int)), sl1 x] ⟨[], .raw (.bool (FitB n x))⟩ := by
  have hI := inside_C x
  by_cases h : (x.length : Int) = (n : Int)
  · rw [show FitB n x = InB x by simp [FitB, h]]
    refine callC_of Tryz.func45 rfl (by kernel_rfl) ?_; rw [Tryz.ntmps45]
    (refine WpA_sreg [] [] (by simp) fun K hK => ?_; simp (disch := omega) only [kc, prep1, sl1, Nat.reduceAdd, List.replicate, ofConst, Value.oneCell']; (with_reducible refine hK _ ?_))
    (refine WpA_sreg [⟨6, _, _, _, hI⟩] [] (by simp) fun K hK => ?_; simp (disch := omega) only [kc, sl1, CItem.a, prep1, Nat.reduceAdd, opS_len, effR, ty_slice23, ls_len, effM, evBin, decT, stS_guard, opS_call, newS, effA, List.find?_cons, evAll, norm, CallRes.plain, rawTV, rawAV, normOk, noRefTV, noRefAV, renTV, renAV, ifT, opS_pick]; (with_reducible refine hK _ ?_))
    (refine WpA_ret ⟨.inr rfl, ret_now rfl ?_ rfl⟩; simp (disch := omega) only [resA, Tryz.results45, resOne, List.getElem?_cons_succ, List.getElem?_cons_zero])
  · rw [show FitB n x = false by simp [FitB, h]]
    refine callC_of Tryz.func45 rfl (by kernel_rfl) ?_; rw [Tryz.ntmps45]
    (refine WpA_sreg [] [] (by simp) fun K hK => ?_; simp (disch := omega) only [kc, prep1, sl1, Nat.reduceAdd, List.replicate, ofConst, Value.oneCell']; (with_reducible refine hK _ ?_))
    (refine WpA_sreg [] [] (by simp) fun K hK => ?_; simp (disch := omega) only [kc, prep1, Nat.reduceAdd, opS_len, effR, ty_slice23, ls_len, effM, evBin, decF, stS_guard, opS_call, newS, effA, List.find?_nil, evAll, opS_pick, ofConst, Value.oneCell']; (with_reducible refine hK _ ?_))
    (refine WpA_ret ⟨.inr rfl, ret_now rfl ?_ rfl⟩; simp (disch := omega) only [resA, Tryz.results45, resOne, List.getElem?_cons_succ, List.getElem?_cons_zero])
set_option maxRecDepth 100000 in
set_option maxHeartbeats 8000000 in
theorem Valid_C (M : List (List Int)) (x : List Int) (hM : MI M) : CallC Tryz.prog 16 [slI M, sl1 x] ⟨[], .raw (.bool (validM M x))⟩ := by
  have hR := IsReduced_C M hM
  have hF := Fits_C M.length x
  unfold validM
  cases h : isReducedM M with
  | true =>
    rw [h] at hR
    rw [Bool.true_and]
    refine callC_of Tryz.func16 rfl (by kernel_rfl) ?_; rw [Tryz.ntmps16]
    (refine WpA_sreg [] [] (by simp) fun K hK => ?_; simp (disch := omega) only [kc, prep1, slI, sl1, Nat.reduceAdd, List.replicate, ofConst, Value.oneCell']; (with_reducible refine hK _ ?_))
    (refine WpA_sreg [⟨1, _, _, _, hR⟩, ⟨6, _, _, _, hF⟩] [] (by simp) fun K hK => ?_; simp (disch := omega) only [kc, slI, sl1, CItem.a, prep1, Nat.reduceAdd, opS_call, newS, effA, List.find?_cons, evAll, norm, CallRes.plain, rawTV, rawAV, normOk, noRefTV, noRefAV, renTV, renAV, stS_guard, opS_len, effR, ty_slice22, ls_len, Nat.reduceBEq, ifT, opS_pick, effM]; (with_reducible refine hK _ ?_))
    (refine WpA_ret ⟨.inr rfl, ret_now rfl ?_ rfl⟩; simp (disch := omega) only [resA, Tryz.results16, resOne, List.getElem?_cons_succ, List.getElem?_cons_zero])
  | false =>
    rw [h] at hR
    rw [Bool.false_and]
    refine callC_of Tryz.func16 rfl (by kernel_rfl) ?_; rw [Tryz.ntmps16]
    (refine WpA_sreg [] [] (by simp) fun K hK => ?_; simp (disch := omega) only [kc, prep1, slI, sl1, Nat.reduceAdd, List.replicate, ofConst, Value.oneCell']; (with_reducible refine hK _ ?_))
    (refine WpA_sreg [⟨1, _, _, _, hR⟩] [] (by simp) fun K hK => ?_; simp (disch := omega) only [kc, slI, CItem.a, prep1, Nat.reduceAdd, opS_call, newS, effA, List.find?_cons, evAll, norm, CallRes.plain, rawTV, rawAV, normOk, noRefTV, noRefAV, renTV, renAV, stS_guard, opS_len, effR, ty_slice22, Option.map_none, Nat.reduceBEq, List.find?_nil, opS_pick, effM, ofConst, Value.oneCell']; (with_reducible refine hK _ ?_))
    (refine WpA_ret ⟨.inr rfl, ret_now rfl ?_ rfl⟩; simp (disch := omega) only [resA, Tryz.results16, resOne, List.getElem?_cons_succ, List.getElem?_cons_zero])
set_option maxRecDepth 100000 in
set_option maxHeartbeats 8000000 in
theorem Column_C (x : List Int) (hx : x.length ≤ 16) (hI : ∀ z ∈ x, I64 z) : CallC Tryz.prog 92 [sl1 x] ⟨[], slZ x⟩ := by
  refine callC_of Tryz.func92 rfl (by kernel_rfl) ?_; rw [Tryz.ntmps92]
  (refine WpA_sreg [] [] (by simp) fun K hK => ?_; simp (disch := omega) only [kc, prep1, sl1, List.replicate, ofConst, Value.oneCell']; (with_reducible refine hK _ ?_))
  (refine WpA_sreg [] [] (by simp) fun K hK => ?_; simp (disch := omega) only [kc, prep1, ofConst, Value.oneCell']; (with_reducible refine hK _ ?_))
  (refine WpA_seq (WpA_sreg [] [] (by simp) fun K hK => ?_); simp (disch := omega) only [kc, prep1, Nat.reduceAdd, opS_len, effR, ty_slice23, ls_len, ofConst, Value.oneCell']; (with_reducible refine hK _ ?_))
  refine WpA_forb (G := SeG x.length) (fun g => ⟨[jk, jk, .raw (.slice none 0 0), .one (.sl 16 0 0 g.i), jk, jk, sl1 x, .raw (.int .i64 (x.length : Int)), .raw (.int .i64 (g.i : Int)), jk, jk, jk, jk, jk, jk, jk, jk, jk, jk], Hm [(16, [⟨51, 2, lc fZ (x.take g.i)⟩])]⟩) (fun g => x.length - g.i) ⟨0, by omega⟩ ?_ ?_
  · refine (Weak_nil (k := 3) (d := 16) 51 2 (by omega) rfl rfl).trans (Weak_sub ⟨rfl, trivial⟩ ?_)
    simp [wkL, okTV, okAV]
  · rintro ⟨i, hi⟩
    simp only
    by_cases hm : i < x.length
    · obtain ⟨c, hc⟩ := getElem?_of_lt hm
      have hcI := hI c (List.mem_of_getElem? hc)
      have c1 := small_C c hcI.1 hcI.2
      have eL : (x.take i).length = i := by simp; omega
      have eS : x.take i ++ [c] = x.take (i + 1) := by rw [List.take_add_one, hc]; rfl
      (refine WpA_sreg [] [] (by simp) fun K hK => ?_; simp (disch := omega) only [kc, prep1, sl1, Hm, effM, evBin, decT]; (with_reducible refine hK _ ?_))
      refine WpA_seq (WpA_cond rfl (fun _ => WpA_skip ?_) (fun h => by simp at h <;> omega))
      refine WpA_seq (WpA_block ?_)
      (refine WpA_sreg [] [] (by simp) fun K hK => ?_; simp (disch := omega) only [kc, prep1, Nat.reduceAdd, opS_indexAddr, effR, natOf_pos, ty_slice23, ls_get, hc, fI, ty_sz2, packT, ty_agg2]; (with_reducible refine hK _ ?_))
      ((refine WpA_lreg [⟨2, _, _, _, c1⟩] [] (by simp) fun K hK => ?_); simp (disch := omega) only [kc, tZ, CItem.a, prep1, Nat.reduceAdd, opS_call, newS, effA, List.find?_cons, evAll, norm, CallRes.plain, rawTV, rawAV, normOk, noRefTV, noRefAV, renTV, renAV, opS_buildSlice, ty_slice120, ty_zero51, ty_sz51, litA, cellsOf, isPure, Nat.reduceMul, Nat.reduceLeDiff, List.contains_nil, unP, ifT, opS_append, appS, effD, newsOf, ty_by51, lc_allp, lc_len, eL, allcons, allnil, and_true, killO, lc_kill, lcZ_snoc, eS, wrS, killTV, killAV]; (with_reducible refine hK _ ?_))
      show WpA _ _ _ _
      ((refine WpA_lreg [] [] (by simp) fun K hK => ?_); simp (disch := omega) only [kc, prep1, effM, ofConst, Value.oneCell', evBin, wrapI]; (with_reducible refine hK _ ?_))
      refine ⟨⟨i + 1, by omega⟩, by simp only; omega, Weak_sub ⟨rfl, trivial⟩ ?_⟩
      simp [wkL, okTV, okAV]
    · have hin : i = x.length := by omega
      subst hin
      (refine WpA_sreg [] [] (by simp) fun K hK => ?_; simp (disch := omega) only [kc, prep1, sl1, Hm, effM, evBin, decF]; (with_reducible refine hK _ ?_))
      refine WpA_seq (WpA_cond rfl (fun h => by simp at h <;> omega) (fun _ => WpA_exit ?_))
      show WpA _ _ _ _
      (refine WpA_sreg [] [] (by simp) fun K hK => ?_; simp (disch := omega) only [kc, prep1]; (with_reducible refine hK _ ?_))
      refine WpA_ret ⟨.inr rfl, ret_fz 16 (fzOk_one rfl) ?_ rfl⟩
      simp (disch := omega) only [kc, resA, Tryz.results92, resOne, List.take_length, fzTV, fzAV, ifT, lc_take, lc_cellF, slZ]
theorem accZ_sz {x y : List Int} {b c : Nat} (hx : ∀ i, Sz (x.getD i 0) b) (hy : ∀ i, Sz (y.getD i 0) c) : ∀ l, Sz (accZ x y l) (b + c + l)
  | 0 => sz_zero _
  | l + 1 => by
    show Sz (accZ x y l + x.getD l 0 * y.getD l 0) _
    exact (accZ_sz hx hy l).add (((hx l).mul (hy l)).mono (by omega))
theorem getD_sz {x : List Int} {b : Nat} (h : ∀ z ∈ x, Sz z b) (i : Nat) : Sz (x.getD i 0) b := by
  rw [List.getD_eq_getElem?_getD]
  cases hx : x[i]? with
  | none => exact sz_zero _
  | some z => exact h z (List.mem_of_getElem? hx)
set_option maxRecDepth 100000 in
set_option maxHeartbeats 8000000 in
theorem Dot_C (x y : List Int) (hx : x.length ≤ 16) (hxy : x.length ≤ y.length) (sx : ∀ z ∈ x, Sz z 16777216) (sy : ∀ z ∈ y, Sz z 67108864) : CallC Tryz.prog 93 [slZ x, slZ y] ⟨[], tZ (accZ x y x.length)⟩ := by
  refine callC_of Tryz.func93 rfl (by kernel_rfl) ?_; rw [Tryz.ntmps93]
  (refine WpA_sreg [] [] (by simp) fun K hK => ?_; simp (disch := omega) only [kc, prep1, slZ, Nat.reduceAdd, List.replicate, opS_alloc, newS, effA, ty_zero51, Value.oneCell', ifT]; (with_reducible refine hK _ ?_))
  (refine WpA_sreg [] [] (by simp) fun K hK => ?_; simp (disch := omega) only [kc, prep1, Nat.reduceAdd, opS_build, effR, ty_zero51, ty_plc51, Value.oneCell', fillA, opS_alloc, newS, effA, ifT, updH, Nat.reduceEqDiff, opS_store, wrS, effD, ty_sz51, cellsOf, Nat.le_refl, isPure, putCells, killTV, killAV]; (with_reducible refine hK _ ?_))
  (refine WpA_seq (WpA_sreg [] [] (by simp) fun K hK => ?_); simp (disch := omega) only [kc, prep1, Nat.reduceAdd, opS_len, effR, ty_slice120, ls_len, ofConst, Value.oneCell']; (with_reducible refine hK _ ?_))
  refine WpA_forb (G := SeG x.length) (fun g => ⟨[slZ x, slZ y, jk, jk, .one (.ptr 4 0 0 0), .one (.ptr 5 0 0 0), jk, jk, jk, .raw (.int .i64 (x.length : Int)), .raw (.int .i64 (g.i : Int)), jk, jk, jk, jk, jk, jk, jk, jk, jk, jk, jk, jk, jk, jk, jk], Hm [(4, bx0), (5, bxV (accZ x y g.i))]⟩) (fun g => x.length - g.i) ⟨0, by omega⟩ ?_ ?_
  · refine (Weak_zH 5).trans (Weak_sub ⟨rfl, ?_, trivial⟩ ?_)
    · show _ = bxV 0
      simp [zH, updH, zO, zAV, zPV, bxV, bxZ, limbs_zero, ls]
    · simp [wkL, okTV, okAV]
  · rintro ⟨i, hi⟩
    simp only
    have hs := accZ_sz (getD_sz sx) (getD_sz sy) i
    by_cases hm : i < x.length
    · obtain ⟨a, ha⟩ := getElem?_of_lt hm
      obtain ⟨b, hb⟩ := getElem?_of_lt (l := y) (k := i) (by omega)
      have za := sx a (List.mem_of_getElem? ha)
      have zb := sy b (List.mem_of_getElem? hb)
      have c1 := Mul_C a b (za.mono (by omega)) (zb.mono (by omega))
      have c2 := Add_C (accZ x y i) (a * b) (hs.mono (by omega)) ((za.mul zb).mono (by omega))
      have e1 : accZ x y i + a * b = accZ x y (i + 1) := by
        show _ = accZ x y i + x.getD i 0 * y.getD i 0
        rw [List.getD_eq_getElem?_getD, List.getD_eq_getElem?_getD, ha, hb]; rfl
      rw [e1] at c2
      (refine WpA_sreg [] [] (by simp) fun K hK => ?_; simp (disch := omega) only [kc, prep1, slZ, Hm, effM, evBin, decT]; (with_reducible refine hK _ ?_))
      refine WpA_seq (WpA_cond rfl (fun _ => WpA_skip ?_) (fun h => by simp at h <;> omega))
      refine WpA_seq (WpA_block ?_)
      (refine WpA_sreg [] [] (by simp) fun K hK => ?_; simp (disch := omega) only [kc, prep1]; (with_reducible refine hK _ ?_))
      ((refine WpA_ldraw mixedA [⟨9, _, _, _, c1⟩, ⟨10, _, _, _, c2⟩] [] (by kernel_rfl) (by simp) fun K hK => ?_); simp (disch := omega) only [kc, tZ, CItem.a, prep1, Nat.reduceAdd, effR, Nat.reduceEqDiff, packT, ty_sz51, ty_agg51, Nat.le_refl, opS_indexAddr, natOf_pos, ty_slice120, ls_get, ha, fZ, hb, opS_call, newS, effA, List.find?_cons, evAll, norm, CallRes.plain, rawTV, rawAV, normOk, isPure, noRefTV, noRefAV, renTV, renAV, Nat.reduceBEq, opS_store, wrS, effD, cellsOf, ifT, putCells, killTV, killAV]; (with_reducible refine hK _ ?_))
      show WpA _ _ _ _
      ((refine WpA_lreg [] [] (by simp) fun K hK => ?_); simp (disch := omega) only [kc, prep1, effM, ofConst, Value.oneCell', evBin, wrapI]; (with_reducible refine hK _ ?_))
      refine ⟨⟨i + 1, by omega⟩, by simp only; omega, Weak_sub ⟨rfl, rfl, trivial⟩ ?_⟩
      simp [wkL, okTV, okAV]
    · have hin : i = x.length := by omega
      subst hin
      (refine WpA_sreg [] [] (by simp) fun K hK => ?_; simp (disch := omega) only [kc, prep1, slZ, Hm, effM, evBin, decF]; (with_reducible refine hK _ ?_))
      refine WpA_seq (WpA_cond rfl (fun h => by simp at h <;> omega) (fun _ => WpA_exit ?_))
      show WpA _ _ _ _
      (refine WpA_sreg [] [] (by simp) fun K hK => ?_; simp (disch := omega) only [kc, prep1, effR, Nat.reduceEqDiff, packT, ty_sz51, ty_agg51, Nat.reduceAdd, Nat.le_refl, opS_store, wrS, effD, cellsOf, isPure, ifT, putCells, killTV, killAV]; (with_reducible refine hK _ ?_))
      (refine WpA_ret ⟨.inr rfl, ret_now rfl ?_ rfl⟩; simp (disch := omega) only [kc, resA, Tryz.results93, resOne, updH, Nat.reduceEqDiff, ifF, packT, ty_sz51, ty_agg51, Nat.reduceAdd, Nat.le_refl, tZ])
end Go.Proofs.YtennjcjjegbhgaaGreat
namespace Go.Proofs.YtennjcjjegbhgaaGreat
open Go.RowKit
abbrev apZ (n c : Nat) (f : Nat → Nat → Int) (y : List Int) : List Int := rowF n fun i => accZ (rowF c (f i)) y c
set_option maxRecDepth 100000 in
set_option maxHeartbeats 8000000 in
theorem Apply_C (n c : Nat) (f : Nat → Nat → Int) (y : List Int) (hn1 : 1 ≤ n) (hn : n ≤ 16) (hc1 : 1 ≤ c) (hc : c ≤ 16) (hy : y.length = c) (hf : ∀ i j : Nat, Sz (f i j) 1024) (sy : ∀ z ∈ y, Sz z 65536) :
    CallC Tryz.prog 91 [slM (mat n c f), slZ y] ⟨[], .tup [(false, [.p (.sl (ls fZ (apZ n c f y)))]), (false, [.p (.raw (.bool true))])]⟩ := by
  have hS := Shape_C (mat n c f)
  rw [shT_yes (mat_ShP f hn1 hn hc1 hc), mat_len, mat_head f hn1] at hS
  have hml := mat_len n c f
  refine callC_of Tryz.func91 rfl (by kernel_rfl) ?_; rw [Tryz.ntmps91]
  (refine WpA_sreg [] [] (by simp) fun K hK => ?_; simp (disch := omega) only [kc, prep1, slM, slZ, Nat.reduceAdd, List.replicate, ofConst, Value.oneCell']; (with_reducible refine hK _ ?_))
  (refine WpA_sreg [⟨1, _, _, _, hS⟩] [] (by simp) fun K hK => ?_; simp (disch := omega) only [kc, slM, CItem.a, prep1, Nat.reduceAdd, opS_call, newS, effA, List.find?_cons, evAll, norm, CallRes.plain, rawTV, rawAV, normOk, noRefTV, noRefAV, renTV, renAV, opS_extract, effM]; (with_reducible refine hK _ ?_))
  (refine WpA_seq (WpA_sreg [] [] (by simp) fun K hK => ?_); simp (disch := omega) only [kc, prep1, Nat.reduceAdd, opS_un, effM, evUn, stS_guard, opS_len, effR, ty_slice120, ls_len, evBin, decT, ifT, opS_pick]; (with_reducible refine hK _ ?_))
  refine WpA_cond rfl (fun h => by simp at h <;> omega) (fun _ => WpA_skip ?_)
  show WpA _ _ _ _
  (refine WpA_sreg [] [] (by simp) fun K hK => ?_; simp (disch := omega) only [kc, prep1, ofConst, Value.oneCell']; (with_reducible refine hK _ ?_))
  (refine WpA_seq (WpA_sreg [] [] (by simp) fun K hK => ?_); simp (disch := omega) only [kc, prep1, Nat.reduceAdd, opS_len, effR, ty_slice62, ls_len, hml, ofConst, Value.oneCell']; (with_reducible refine hK _ ?_))
  refine WpA_forb (G := FiG n) (fun g => ⟨[jk, slZ y, jk, jk, .raw (.slice none 0 0), .raw (.bool false), jk, jk, jk, .one (.sl 37 0 0 g.i), jk, jk, jk, jk, jk, jk, jk, jk, jk, jk, jk, jk, jk, jk, jk, jk, slM (mat n c f), .raw (.int .i64 (n : Int)), .raw (.int .i64 (g.i : Int)), jk, jk, jk, jk, jk, jk, jk, jk, jk, jk, jk], Hm [(37, [⟨51, 2, lc fZ (apZ g.i c f y)⟩])]⟩) (fun g => n - g.i) ⟨0, by omega⟩ ?_ ?_
  · refine (Weak_nil (k := 9) (d := 37) 51 2 (by omega) rfl rfl).trans (Weak_sub ⟨rfl, trivial⟩ ?_)
    simp [wkL, okTV, okAV]
  · rintro ⟨i, hi⟩
    simp only
    by_cases hm : i < n
    · have hrow := mat_get c f hm
      have c1 := Dot_C (rowF c (f i)) y (by rw [rowF_len]; omega) (by rw [rowF_len]; omega) (fun z hz => by
        obtain ⟨j, _, rfl⟩ := List.mem_map.1 hz
        exact (hf i j).mono (by omega)) (fun z hz => (sy z hz).mono (by omega))
      rw [rowF_len] at c1
      have e1 : lc fZ (apZ i c f y) ++ [[.p (.raw (.bool (decide (accZ (rowF c (f i)) y c < 0)))), .p (.sl (ls fU (limbs (accZ (rowF c (f i)) y c).natAbs)))]] = lc fZ (apZ (i + 1) c f y) := by
        rw [lcZ_snoc, apZ, apZ, rowF_snoc i]
      (refine WpA_sreg [] [] (by simp) fun K hK => ?_; simp (disch := omega) only [kc, prep1, slZ, slM, Hm, effM, evBin, decT]; (with_reducible refine hK _ ?_))
      refine WpA_seq (WpA_cond rfl (fun _ => WpA_skip ?_) (fun h => by simp at h <;> omega))
      refine WpA_seq (WpA_block ?_)
      (refine WpA_sreg [] [] (by simp) fun K hK => ?_; simp (disch := omega) only [kc, prep1, Nat.reduceAdd, opS_indexAddr, effR, natOf_pos, ty_slice62, ls_get, hrow, fR, ty_sz120, packT, ty_agg120]; (with_reducible refine hK _ ?_))
      ((refine WpA_lreg [⟨3, _, _, _, c1⟩] [] (by simp) fun K hK => ?_); simp (disch := omega) only [kc, slZ, tZ, CItem.a, prep1, Nat.reduceAdd, opS_call, newS, effA, List.find?_cons, evAll, norm, CallRes.plain, rawTV, rawAV, normOk, noRefTV, noRefAV, renTV, renAV, opS_buildSlice, ty_slice120, ty_zero51, ty_sz51, litA, cellsOf, isPure, Nat.reduceMul, Nat.reduceLeDiff, List.contains_nil, unP, ifT, opS_append, appS, effD, newsOf, ty_by51, lc_allp, lc_len, rowF_len, allcons, allnil, and_true, killO, lc_kill, e1, wrS, killTV, killAV]; (with_reducible refine hK _ ?_))
      show WpA _ _ _ _
      ((refine WpA_lreg [] [] (by simp) fun K hK => ?_); simp (disch := omega) only [kc, prep1, effM, ofConst, Value.oneCell', evBin, wrapI]; (with_reducible refine hK _ ?_))
      refine ⟨⟨i + 1, by omega⟩, by simp only; omega, Weak_sub ⟨rfl, trivial⟩ ?_⟩
      simp [wkL, okTV, okAV]
    · have hin : i = n := by omega
      subst hin
      (refine WpA_sreg [] [] (by simp) fun K hK => ?_; simp (disch := omega) only [kc, prep1, slZ, slM, Hm, effM, evBin, decF]; (with_reducible refine hK _ ?_))
      refine WpA_seq (WpA_cond rfl (fun h => by simp at h <;> omega) (fun _ => WpA_exit ?_))
      show WpA _ _ _ _
      (refine WpA_sreg [] [] (by simp) fun K hK => ?_; simp (disch := omega) only [kc, prep1, Nat.reduceAdd, ofConst, Value.oneCell']; (with_reducible refine hK _ ?_))
      refine WpA_ret ⟨.inr rfl, ret_fz 37 (fzOk_one rfl) ?_ rfl⟩
      have eT : List.take i (apZ i c f y) = apZ i c f y := List.take_of_length_le (by rw [rowF_len]; omega)
      simp (disch := omega) only [kc, resA, Tryz.results91, resL, resOne, fzTV, fzAV, ifT, lc_take, eT, lc_cellF, tvPair]
set_option maxRecDepth 100000 in
set_option maxHeartbeats 8000000 in
theorem Product_C (n : Nat) (f : Nat → Nat → Int) (x y : List Int) (hn1 : 1 ≤ n) (hn : n ≤ 16) (hx : x.length = n) (hy : y.length = n) (hf : ∀ i j : Nat, I64 (f i j)) (ix : ∀ z ∈ x, I64 z) (iy : ∀ z ∈ y, I64 z) :
    CallC Tryz.prog 50 [slI (mat n n f), sl1 x, sl1 y] ⟨[], tZ (accZ x (apZ n n f y) x.length)⟩ := by
  have c1 := Of_C n n f hn1 hn hn1 hn (fun i j _ _ => hf i j)
  have c2 := Column_C y (by omega) iy
  have c3 := Apply_C n n f y hn1 hn hn1 hn hy (fun i j => (hf i j).sz (by omega)) (fun z hz => (iy z hz).sz (by omega))
  have c4 := Column_C x (by omega) ix
  have c5 := Dot_C x (apZ n n f y) (by omega) (by rw [rowF_len]; omega) (fun z hz => (ix z hz).sz (by omega)) (fun z hz => by
    obtain ⟨i, _, rfl⟩ := List.mem_map.1 hz
    have := accZ_sz (b := 2) (c := 2) (getD_sz (x := rowF n (f i)) fun z hz => by
      obtain ⟨j, _, rfl⟩ := List.mem_map.1 hz
      exact (hf i j).sz (by omega)) (getD_sz (x := y) fun z hz => (iy z hz).sz (by omega)) n
    exact this.mono (by omega))
  refine callC_of Tryz.func50 rfl (by kernel_rfl) ?_; rw [Tryz.ntmps50]
  (refine WpA_sreg [] [] (by simp) fun K hK => ?_; simp (disch := omega) only [kc, prep1, slI, sl1, Nat.reduceAdd, List.replicate, opS_alloc, newS, effA, ty_zero51, Value.oneCell', ifT]; (with_reducible refine hK _ ?_))
  (refine WpA_sreg [⟨1, _, _, _, c1⟩, ⟨3, _, _, _, c2⟩, ⟨4, _, _, _, c3⟩] [] (by simp) fun K hK => ?_; simp (disch := omega) only [kc, slI, slM, sl1, slZ, CItem.a, prep1, Nat.reduceAdd, opS_call, newS, effA, List.find?_cons, evAll, norm, CallRes.plain, rawTV, rawAV, normOk, noRefTV, noRefAV, renTV, renAV, Nat.reduceBEq, opS_extract, effM]; (with_reducible refine hK _ ?_))
  (refine WpA_sreg [⟨1, _, _, _, c4⟩, ⟨3, _, _, _, c5⟩] [] (by simp) fun K hK => ?_; simp (disch := omega) only [kc, sl1, slZ, tZ, CItem.a, prep1, Nat.reduceAdd, opS_call, newS, effA, List.find?_cons, evAll, norm, CallRes.plain, rawTV, rawAV, normOk, noRefTV, noRefAV, renTV, renAV, Nat.reduceBEq, opS_store, wrS, effD, ty_sz51, updH, cellsOf, Nat.le_refl, isPure, ifT, putCells, killTV, killAV]; (with_reducible refine hK _ ?_))
  (refine WpA_ret ⟨.inr rfl, ret_now rfl ?_ rfl⟩; simp (disch := omega) only [kc, resA, Tryz.results50, resOne, updH, ifF, packT, ty_sz51, ty_agg51, Nat.reduceAdd, Nat.le_refl, tZ])
abbrev tvI (v : Int) (b : Bool) : TV := .tup [(false, [.p (.raw (.int .i64 v))]), (false, [.p (.raw (.bool b))])]
def wiT (z : Int) : TV := if -4611686018427387904 ≤ z ∧ z ≤ 4611686018427387904 then tvI z true else tvI 0 false
set_option maxRecDepth 100000 in
set_option maxHeartbeats 8000000 in
theorem within_C (z : Int) (hz : Bg z) : CallC Tryz.prog 49 [tZ z] ⟨[], wiT z⟩ := by
  have hI := Int64_C z hz
  by_cases h : -9223372036854775808 ≤ z ∧ z ≤ 9223372036854775807
  · rw [i64R, if_pos h] at hI
    obtain ⟨h1, h2⟩ := h
    by_cases h3 : z < -4611686018427387904
    · rw [show wiT z = tvI 0 false from if_neg (by omega)]
      refine callC_of Tryz.func49 rfl (by kernel_rfl) ?_; rw [Tryz.ntmps49]
      (refine WpA_sreg [] [] (by simp) fun K hK => ?_; simp (disch := omega) only [kc, prep1, Nat.reduceAdd, tZ, decT, List.replicate, opS_box, newS, effA, cellsOf, isPure, ifT, ofConst, Value.oneCell']; (with_reducible refine hK _ ?_))
      (refine WpA_sreg [⟨1, _, _, _, hI⟩] [] (by simp) fun K hK => ?_; simp (disch := omega) only [kc, tZ, decT, CItem.a, prep1, Nat.reduceAdd, effR, updH, packT, ty_sz51, ty_agg51, Nat.le_refl, opS_call, newS, effA, List.find?_cons, evAll, norm, CallRes.plain, rawTV, rawAV, normOk, isPure, noRefTV, noRefAV, renTV, renAV, opS_extract, effM]; (with_reducible refine hK _ ?_))
      (refine WpA_seq (WpA_sreg [] [] (by simp) fun K hK => ?_); simp (disch := omega) only [kc, prep1, Nat.reduceAdd, opS_un, effM, evUn, stS_guard, ofConst, Value.oneCell', ifT, evBin, decT, opS_pick, reduceCtorEq, Option.map_none]; (with_reducible refine hK _ ?_))
      refine WpA_cond rfl (fun _ => ?_) (fun h => by simp at h <;> omega)
      (refine WpA_sreg [] [] (by simp) fun K hK => ?_; simp (disch := omega) only [kc, prep1, ofConst, Value.oneCell']; (with_reducible refine hK _ ?_))
      (refine WpA_ret ⟨.inr rfl, ret_now rfl ?_ rfl⟩; simp (disch := omega) only [resA, Tryz.results49, resL, resOne, List.getElem?_cons_succ, List.getElem?_cons_zero, Option.bind_some, tvPair, Option.map_some])
    by_cases h4 : 4611686018427387904 < z
    · rw [show wiT z = tvI 0 false from if_neg (by omega)]
      refine callC_of Tryz.func49 rfl (by kernel_rfl) ?_; rw [Tryz.ntmps49]
      (refine WpA_sreg [] [] (by simp) fun K hK => ?_; simp (disch := omega) only [kc, prep1, Nat.reduceAdd, tZ, decF, List.replicate, opS_box, newS, effA, cellsOf, isPure, ifT, ofConst, Value.oneCell']; (with_reducible refine hK _ ?_))
      (refine WpA_sreg [⟨1, _, _, _, hI⟩] [] (by simp) fun K hK => ?_; simp (disch := omega) only [kc, tZ, decF, CItem.a, prep1, Nat.reduceAdd, effR, updH, packT, ty_sz51, ty_agg51, Nat.le_refl, opS_call, newS, effA, List.find?_cons, evAll, norm, CallRes.plain, rawTV, rawAV, normOk, isPure, noRefTV, noRefAV, renTV, renAV, opS_extract, effM]; (with_reducible refine hK _ ?_))
      (refine WpA_seq (WpA_sreg [] [] (by simp) fun K hK => ?_); simp (disch := omega) only [kc, prep1, Nat.reduceAdd, opS_un, effM, evUn, stS_guard, ofConst, Value.oneCell', ifT, evBin, decF, opS_pick, decT]; (with_reducible refine hK _ ?_))
      refine WpA_cond rfl (fun _ => ?_) (fun h => by simp at h <;> omega)
      (refine WpA_sreg [] [] (by simp) fun K hK => ?_; simp (disch := omega) only [kc, prep1, ofConst, Value.oneCell']; (with_reducible refine hK _ ?_))
      (refine WpA_ret ⟨.inr rfl, ret_now rfl ?_ rfl⟩; simp (disch := omega) only [resA, Tryz.results49, resL, resOne, List.getElem?_cons_succ, List.getElem?_cons_zero, Option.bind_some, tvPair, Option.map_some])
    rw [show wiT z = tvI z true from if_pos (by omega)]
    refine callC_of Tryz.func49 rfl (by kernel_rfl) ?_; rw [Tryz.ntmps49]
    (refine WpA_sreg [] [] (by simp) fun K hK => ?_; simp (disch := omega) only [kc, prep1, Nat.reduceAdd, tZ, List.replicate, opS_box, newS, effA, cellsOf, isPure, ifT, ofConst, Value.oneCell']; (with_reducible refine hK _ ?_))
    (refine WpA_sreg [⟨1, _, _, _, hI⟩] [] (by simp) fun K hK => ?_; simp (disch := omega) only [kc, tZ, CItem.a, prep1, Nat.reduceAdd, effR, updH, packT, ty_sz51, ty_agg51, Nat.le_refl, opS_call, newS, effA, List.find?_cons, evAll, norm, CallRes.plain, rawTV, rawAV, normOk, isPure, noRefTV, noRefAV, renTV, renAV, opS_extract, effM]; (with_reducible refine hK _ ?_))
    (refine WpA_seq (WpA_sreg [] [] (by simp) fun K hK => ?_); simp (disch := omega) only [kc, prep1, Nat.reduceAdd, opS_un, effM, evUn, stS_guard, ofConst, Value.oneCell', ifT, evBin, decF, opS_pick]; (with_reducible refine hK _ ?_))
    refine WpA_cond rfl (fun h => by simp at h <;> omega) (fun _ => WpA_skip ?_)
    show WpA _ _ _ _
    (refine WpA_sreg [] [] (by simp) fun K hK => ?_; simp (disch := omega) only [kc, prep1, Nat.reduceAdd, ofConst, Value.oneCell']; (with_reducible refine hK _ ?_))
    (refine WpA_ret ⟨.inr rfl, ret_now rfl ?_ rfl⟩; simp (disch := omega) only [resA, Tryz.results49, resL, resOne, List.getElem?_cons_succ, List.getElem?_cons_zero, Option.bind_some, tvPair, Option.map_some])
  · rw [i64R, if_neg h] at hI
    rw [show wiT z = tvI 0 false from if_neg (by omega)]
    refine callC_of Tryz.func49 rfl (by kernel_rfl) ?_; rw [Tryz.ntmps49]
    (refine WpA_sreg [] [] (by simp) fun K hK => ?_; simp (disch := omega) only [kc, prep1, Nat.reduceAdd, tZ, List.replicate, opS_box, newS, effA, cellsOf, isPure, ifT, ofConst, Value.oneCell']; (with_reducible refine hK _ ?_))
    (refine WpA_sreg [⟨1, _, _, _, hI⟩] [] (by simp) fun K hK => ?_; simp (disch := omega) only [kc, tZ, CItem.a, prep1, Nat.reduceAdd, effR, updH, packT, ty_sz51, ty_agg51, Nat.le_refl, opS_call, newS, effA, List.find?_cons, evAll, norm, CallRes.plain, rawTV, rawAV, normOk, isPure, noRefTV, noRefAV, renTV, renAV, opS_extract, effM]; (with_reducible refine hK _ ?_))
    (refine WpA_seq (WpA_sreg [] [] (by simp) fun K hK => ?_); simp (disch := omega) only [kc, prep1, Nat.reduceAdd, opS_un, effM, evUn, Bool.not_false, stS_guard, reduceCtorEq, ofConst, Value.oneCell', Option.map_none, opS_pick]; (with_reducible refine hK _ ?_))
    refine WpA_cond rfl (fun _ => ?_) (fun h => by simp at h <;> omega)
    (refine WpA_sreg [] [] (by simp) fun K hK => ?_; simp (disch := omega) only [kc, prep1, ofConst, Value.oneCell']; (with_reducible refine hK _ ?_))
    (refine WpA_ret ⟨.inr rfl, ret_now rfl ?_ rfl⟩; simp (disch := omega) only [resA, Tryz.results49, resL, resOne, List.getElem?_cons_succ, List.getElem?_cons_zero, Option.bind_some, tvPair, Option.map_some])
def innT (M : List (List Int)) (x y : List Int) : TV := if validM M x = true ∧ FitB M.length y = true then wiT (accZ x (applyM M y) x.length) else tvI 0 false
theorem applyM_red {n : Nat} {f : Nat → Nat → Int} {y : List Int} (hr : isReducedM (mat n n f) = true) (hy : InB y = true) : applyM (mat n n f) y = apZ n n f y := by
  have hs := isReducedM_small hr
  have h8 := hs.2.1
  rw [mat_len] at h8
  apply List.ext_getElem?
  intro i
  rw [applyM, List.getElem?_map]
  by_cases hi : i < n
  · rw [mat_get _ _ hi, rowF_get _ hi]
    simp only [Option.map_some, rowF_len]
    exact congrArg some (accW_exact (hs.row_bd (mat_get _ _ hi)) (fun i z hz => InB_bounds hy hz) n h8).1
  · rw [List.getElem?_eq_none (by rw [mat_len]; omega), List.getElem?_eq_none (by rw [rowF_len]; omega)]; rfl
theorem InB_I64 {x : List Int} (h : InB x = true) : ∀ z ∈ x, I64 z := fun z hz => by
  obtain ⟨i, hi⟩ := List.mem_iff_getElem?.1 hz
  have := InB_bounds h hi
  exact ⟨by omega, by omega⟩
set_option maxRecDepth 100000 in
set_option maxHeartbeats 8000000 in
theorem Inner_C (M : List (List Int)) (x y : List Int) (hM : MI M) : CallC Tryz.prog 21 [slI M, sl1 x, sl1 y] ⟨[], innT M x y⟩ := by
  have hx := Valid_C M x hM
  have hy := Valid_C M y hM
  cases h1 : validM M x with
  | false =>
    rw [h1] at hx
    rw [show innT M x y = tvI 0 false from if_neg (by simp [h1])]
    refine callC_of Tryz.func21 rfl (by kernel_rfl) ?_; rw [Tryz.ntmps21]
    (refine WpA_sreg [] [] (by simp) fun K hK => ?_; simp (disch := omega) only [kc, prep1, slI, sl1, Nat.reduceAdd, List.replicate, ofConst, Value.oneCell']; (with_reducible refine hK _ ?_))
    (refine WpA_seq (WpA_sreg [⟨2, _, _, _, hx⟩] [] (by simp) fun K hK => ?_); simp (disch := omega) only [kc, slI, sl1, CItem.a, prep1, Nat.reduceAdd, opS_call, newS, effA, List.find?_cons, evAll, norm, CallRes.plain, rawTV, rawAV, normOk, noRefTV, noRefAV, renTV, renAV, opS_un, effM, evUn, Bool.not_false, stS_guard, reduceCtorEq, Nat.reduceBEq, List.find?_nil, Option.map_none, opS_pick, ofConst, Value.oneCell']; (with_reducible refine hK _ ?_))
    refine WpA_cond rfl (fun _ => ?_) (fun h => by simp at h)
    (refine WpA_sreg [] [] (by simp) fun K hK => ?_; simp (disch := omega) only [kc, prep1, ofConst, Value.oneCell']; (with_reducible refine hK _ ?_))
    (refine WpA_ret ⟨.inr rfl, ret_now rfl ?_ rfl⟩; simp (disch := omega) only [resA, Tryz.results21, resL, resOne, List.getElem?_cons_succ, List.getElem?_cons_zero, Option.bind_some, tvPair, Option.map_some])
  | true =>
    rw [h1] at hx
    have h1' := h1
    unfold validM at h1'
    rw [Bool.and_eq_true] at h1'
    obtain ⟨hr, hfx⟩ := h1'
    have hvy : validM M y = FitB M.length y := by unfold validM; rw [hr, Bool.true_and]
    rw [hvy] at hy
    cases h2 : FitB M.length y with
    | false =>
      rw [h2] at hy
      rw [show innT M x y = tvI 0 false from if_neg (by simp [h2])]
      refine callC_of Tryz.func21 rfl (by kernel_rfl) ?_; rw [Tryz.ntmps21]
      (refine WpA_sreg [] [] (by simp) fun K hK => ?_; simp (disch := omega) only [kc, prep1, slI, sl1, Nat.reduceAdd, List.replicate, ofConst, Value.oneCell']; (with_reducible refine hK _ ?_))
      (refine WpA_seq (WpA_sreg [⟨2, _, _, _, hx⟩, ⟨7, _, _, _, hy⟩] [] (by simp) fun K hK => ?_); simp (disch := omega) only [kc, slI, sl1, CItem.a, prep1, Nat.reduceAdd, opS_call, newS, effA, List.find?_cons, evAll, norm, CallRes.plain, rawTV, rawAV, normOk, noRefTV, noRefAV, renTV, renAV, opS_un, effM, evUn, stS_guard, Nat.reduceBEq, ifT, Bool.not_false, opS_pick]; (with_reducible refine hK _ ?_))
      refine WpA_cond rfl (fun _ => ?_) (fun h => by simp at h)
      (refine WpA_sreg [] [] (by simp) fun K hK => ?_; simp (disch := omega) only [kc, prep1, ofConst, Value.oneCell']; (with_reducible refine hK _ ?_))
      (refine WpA_ret ⟨.inr rfl, ret_now rfl ?_ rfl⟩; simp (disch := omega) only [resA, Tryz.results21, resL, resOne, List.getElem?_cons_succ, List.getElem?_cons_zero, Option.bind_some, tvPair, Option.map_some])
    | true =>
      rw [h2] at hy
      rw [show innT M x y = wiT (accZ x (applyM M y) x.length) from if_pos ⟨h1, h2⟩]
      obtain ⟨g1, g8, g3, _⟩ := (isReducedM_iff M).1 hr
      rw [FitB_iff] at hfx h2
      obtain ⟨n, f, rfl, hn1, hn, hf⟩ : ∃ n f, M = mat n n f ∧ 1 ≤ n ∧ n ≤ 8 ∧ ∀ i j : Nat, I64 (f i j) := by
        refine ⟨M.length, ent M, mat_ent fun r hr => ?_, g1, g8, fun i j => hM.ent i j⟩
        obtain ⟨i, hi⟩ := List.mem_iff_getElem?.1 hr
        have := g3 i (List.getElem?_eq_some_iff.1 hi).1
        rwa [List.getD_eq_getElem?_getD, hi] at this
      rw [mat_len] at hfx h2
      rw [applyM_red hr h2.2]
      have ix := InB_I64 hfx.2
      have iy := InB_I64 h2.2
      have c1 := Product_C n f x y hn1 (by omega) hfx.1 h2.1 hf ix iy
      have hsz : Sz (accZ x (apZ n n f y) x.length) (2 + 65536 + x.length) := accZ_sz (getD_sz fun z hz => (ix z hz).sz (by omega)) (getD_sz fun z hz => by
        obtain ⟨i, _, rfl⟩ := List.mem_map.1 hz
        have := accZ_sz (b := 2) (c := 2) (getD_sz (x := rowF n (f i)) fun z hz => by
          obtain ⟨j, _, rfl⟩ := List.mem_map.1 hz
          exact (hf i j).sz (by omega)) (getD_sz (x := y) fun z hz => (iy z hz).sz (by omega)) n
        exact this.mono (by omega)) x.length
      have c2 := within_C (accZ x (apZ n n f y) x.length) (hsz.mono (by omega))
      generalize accZ x (apZ n n f y) x.length = v at *
      by_cases hv : -4611686018427387904 ≤ v ∧ v ≤ 4611686018427387904
      · rw [show wiT v = tvI v true from if_pos hv] at c2 ⊢
        refine callC_of Tryz.func21 rfl (by kernel_rfl) ?_; rw [Tryz.ntmps21]
        (refine WpA_sreg [] [] (by simp) fun K hK => ?_; simp (disch := omega) only [kc, prep1, slI, sl1, Nat.reduceAdd, List.replicate, ofConst, Value.oneCell']; (with_reducible refine hK _ ?_))
        (refine WpA_seq (WpA_sreg [⟨2, _, _, _, hx⟩, ⟨7, _, _, _, hy⟩] [] (by simp) fun K hK => ?_); simp (disch := omega) only [kc, slI, sl1, CItem.a, prep1, Nat.reduceAdd, opS_call, newS, effA, List.find?_cons, evAll, norm, CallRes.plain, rawTV, rawAV, normOk, noRefTV, noRefAV, renTV, renAV, opS_un, effM, evUn, stS_guard, Nat.reduceBEq, ifT, opS_pick]; (with_reducible refine hK _ ?_))
        refine WpA_cond rfl (fun h => by simp at h) (fun _ => WpA_skip ?_)
        show WpA _ _ _ _
        (refine WpA_sreg [⟨3, _, _, _, c1⟩, ⟨4, _, _, _, c2⟩] [] (by simp) fun K hK => ?_; simp (disch := omega) only [kc, slI, sl1, tZ, CItem.a, prep1, Nat.reduceAdd, opS_call, newS, effA, List.find?_cons, evAll, norm, CallRes.plain, rawTV, rawAV, normOk, noRefTV, noRefAV, renTV, renAV, Nat.reduceBEq, isPure, opS_extract, effM]; (with_reducible refine hK _ ?_))
        (refine WpA_ret ⟨.inr rfl, ret_now rfl ?_ rfl⟩; simp (disch := omega) only [resA, Tryz.results21, resL, resOne, List.getElem?_cons_succ, List.getElem?_cons_zero, Option.bind_some, tvPair, Option.map_some])
      · rw [show wiT v = tvI 0 false from if_neg hv] at c2 ⊢
        refine callC_of Tryz.func21 rfl (by kernel_rfl) ?_; rw [Tryz.ntmps21]
        (refine WpA_sreg [] [] (by simp) fun K hK => ?_; simp (disch := omega) only [kc, prep1, slI, sl1, Nat.reduceAdd, List.replicate, ofConst, Value.oneCell']; (with_reducible refine hK _ ?_))
        (refine WpA_seq (WpA_sreg [⟨2, _, _, _, hx⟩, ⟨7, _, _, _, hy⟩] [] (by simp) fun K hK => ?_); simp (disch := omega) only [kc, slI, sl1, CItem.a, prep1, Nat.reduceAdd, opS_call, newS, effA, List.find?_cons, evAll, norm, CallRes.plain, rawTV, rawAV, normOk, noRefTV, noRefAV, renTV, renAV, opS_un, effM, evUn, stS_guard, Nat.reduceBEq, ifT, opS_pick]; (with_reducible refine hK _ ?_))
        refine WpA_cond rfl (fun h => by simp at h) (fun _ => WpA_skip ?_)
        show WpA _ _ _ _
        (refine WpA_sreg [⟨3, _, _, _, c1⟩, ⟨4, _, _, _, c2⟩] [] (by simp) fun K hK => ?_; simp (disch := omega) only [kc, slI, sl1, tZ, CItem.a, prep1, Nat.reduceAdd, opS_call, newS, effA, List.find?_cons, evAll, norm, CallRes.plain, rawTV, rawAV, normOk, noRefTV, noRefAV, renTV, renAV, Nat.reduceBEq, isPure, opS_extract, effM]; (with_reducible refine hK _ ?_))
        (refine WpA_ret ⟨.inr rfl, ret_now rfl ?_ rfl⟩; simp (disch := omega) only [resA, Tryz.results21, resL, resOne, List.getElem?_cons_succ, List.getElem?_cons_zero, Option.bind_some, tvPair, Option.map_some])
theorem innT_cases (M : List (List Int)) (x y : List Int) : ∃ v b, innT M x y = tvI v b ∧ innerV M x y = .tuple #[.int .i64 v, .bool b] := by
  unfold innT innerV
  split
  · unfold wiT dotV
    split
    · exact ⟨_, _, rfl, rfl⟩
    · exact ⟨_, _, rfl, rfl⟩
  · exact ⟨_, _, rfl, rfl⟩
set_option maxRecDepth 100000 in
set_option maxHeartbeats 8000000 in
theorem Norm_C (M : List (List Int)) (x : List Int) (hM : MI M) : CallC Tryz.prog 19 [slI M, sl1 x] ⟨[], innT M x x⟩ := by
  have hI := Inner_C M x x hM
  obtain ⟨v, b, e, _⟩ := innT_cases M x x
  rw [e] at hI ⊢
  refine callC_of Tryz.func19 rfl (by kernel_rfl) ?_; rw [Tryz.ntmps19]
  (refine WpA_sreg [] [] (by simp) fun K hK => ?_; simp (disch := omega) only [kc, prep1, slI, sl1, Nat.reduceAdd, List.replicate, ofConst, Value.oneCell']; (with_reducible refine hK _ ?_))
  (refine WpA_sreg [⟨3, _, _, _, hI⟩] [] (by simp) fun K hK => ?_; simp (disch := omega) only [kc, slI, sl1, CItem.a, prep1, Nat.reduceAdd, opS_call, newS, effA, List.find?_cons, evAll, norm, CallRes.plain, rawTV, rawAV, normOk, noRefTV, noRefAV, renTV, renAV, opS_extract, effM]; (with_reducible refine hK _ ?_))
  (refine WpA_ret ⟨.inr rfl, ret_now rfl ?_ rfl⟩; simp (disch := omega) only [resA, Tryz.results19, resL, resOne, List.getElem?_cons_succ, List.getElem?_cons_zero, Option.bind_some, tvPair, Option.map_some])
end Go.Proofs.YtennjcjjegbhgaaGreat
namespace Go.Proofs.YtennjcjjegbhgaaGreat
open Go.RowKit
set_option maxRecDepth 100000 in
set_option maxHeartbeats 8000000 in
theorem Rem_C (a b : Int) (hb0 : b ≠ 0) (ha : Bh a) (hb : Bh b) : CallC Tryz.prog 190 [tZ a, tZ b] ⟨[], tZ (a % b)⟩ := by
  have h1 := DivMod_C a b hb0 ha hb
  refine callC_of Tryz.func190 rfl (by kernel_rfl) ?_; rw [Tryz.ntmps190]
  (refine WpA_sreg [] [] (by simp) fun K hK => ?_; simp (disch := omega) only [kc, prep1, Nat.reduceAdd, tZ, List.replicate, opS_box, newS, effA, cellsOf, isPure, ifT, updH, Nat.reduceEqDiff, opS_alloc, ty_zero51, Value.oneCell', ifF]; (with_reducible refine hK _ ?_))
  (refine WpA_sreg [⟨2, _, _, _, h1⟩] [] (by simp) fun K hK => ?_; simp (disch := omega) only [kc, tZ, cZ, CItem.a, prep1, Nat.reduceAdd, effR, updH, Nat.reduceEqDiff, ifF, packT, ty_sz51, ty_agg51, Nat.le_refl, opS_call, newS, effA, List.find?_cons, evAll, norm, CallRes.plain, rawTV, rawAV, normOk, isPure, noRefTV, noRefAV, renTV, renAV, opS_extract, effM, opS_alloc, ty_zero51, Value.oneCell', ifT, opS_store, wrS, effD, cellsOf, putCells, killTV, killAV]; (with_reducible refine hK _ ?_))
  (refine WpA_sreg [] [] (by simp) fun K hK => ?_; simp (disch := omega) only [kc, prep1, effR, updH, Nat.reduceEqDiff, ifF, packT, ty_sz51, ty_agg51, Nat.reduceAdd, Nat.le_refl, opS_store, wrS, effD, cellsOf, isPure, ifT, putCells, killTV, killAV]; (with_reducible refine hK _ ?_))
  (refine WpA_ret ⟨.inr rfl, ret_now rfl ?_ rfl⟩; simp (disch := omega) only [kc, resA, Tryz.results190, resOne, updH, Nat.reduceEqDiff, ifF, packT, ty_sz51, ty_agg51, Nat.reduceAdd, Nat.le_refl, tZ])
structure GcG (a b : Int) where
  x : Int
  y : Int
  hx : 0 ≤ x
  hy : 0 ≤ y
  hg : Int.gcd x y = Int.gcd a b
  sx : Bh x
  sy : Bh y
theorem gcd_step {x y : Int} (hx : 0 ≤ x) (hy : 0 ≤ y) : Int.gcd y (x % y) = Int.gcd x y := by
  obtain ⟨m, rfl⟩ := Int.eq_ofNat_of_zero_le hx
  obtain ⟨n, rfl⟩ := Int.eq_ofNat_of_zero_le hy
  show Nat.gcd n (m % n) = Nat.gcd m n
  rw [Nat.gcd_comm n, ← Nat.gcd_rec, Nat.gcd_comm]
set_option maxRecDepth 100000 in
set_option maxHeartbeats 8000000 in
theorem Gcd_C (a b : Int) (ha : Bh a) (hb : Bh b) : CallC Tryz.prog 186 [tZ a, tZ b] ⟨[], tZ (Int.gcd a b : Nat)⟩ := by
  have c1 := abs_C a ha.bg
  have c2 := abs_C b hb.bg
  refine callC_of Tryz.func186 rfl (by kernel_rfl) ?_; rw [Tryz.ntmps186]
  (refine WpA_sreg [] [] (by simp) fun K hK => ?_; simp (disch := omega) only [kc, prep1, Nat.reduceAdd, tZ, List.replicate, opS_box, newS, effA, cellsOf, isPure, ifT, updH, Nat.reduceEqDiff, opS_alloc, ty_zero51, Value.oneCell', ifF]; (with_reducible refine hK _ ?_))
  (refine WpA_sdraw mixedA [⟨1, _, _, _, c1⟩, ⟨3, _, _, _, c2⟩] [] (by kernel_rfl) (by simp) fun K hK => ?_; simp (disch := omega) only [kc, tZ, decF, CItem.a, prep1, Nat.reduceAdd, effR, updH, Nat.reduceEqDiff, ifF, packT, ty_sz51, ty_agg51, Nat.le_refl, opS_call, newS, effA, List.find?_cons, evAll, norm, CallRes.plain, rawTV, rawAV, normOk, isPure, noRefTV, noRefAV, renTV, renAV, Nat.reduceBEq, opS_alloc, ty_zero51, Value.oneCell', ifT, opS_store, wrS, effD, cellsOf, putCells, killTV, killAV]; (with_reducible refine hK _ ?_))
  refine WpA_seq (WpA_forb (G := GcG a b) (fun g => ⟨[jk, jk, jk, jk, .one (.ptr 4 0 0 0), .one (.ptr 5 0 0 0), .one (.ptr 6 0 0 0), jk, jk, jk, jk, jk, jk, jk, jk, jk, jk, jk, jk], Hm [(4, bx0), (5, bxV g.x), (6, bxV g.y)]⟩) (fun g => g.y.natAbs) ⟨a.natAbs, b.natAbs, by omega, by omega, by simp; rfl, ha.le (by omega), hb.le (by omega)⟩ ?_ ?_)
  · refine Weak_sub ⟨rfl, rfl, rfl, trivial⟩ ?_
    simp [wkL, okTV, okAV]
  · rintro ⟨x, y, hx, hy, hg, sx, sy⟩
    simp only
    have cs := sign_C y sy.bg
    by_cases h0 : y = 0
    · subst h0
      (refine WpA_seq (WpA_sreg [⟨1, _, _, _, cs⟩] [] (by simp) fun K hK => ?_); simp (disch := omega) only [kc, tZ, decF, sg_zero, CItem.a, prep1, Nat.reduceAdd, Hm, effR, Nat.reduceEqDiff, ifF, packT, ty_sz51, ty_agg51, Nat.le_refl, opS_call, newS, effA, List.find?_cons, evAll, norm, CallRes.plain, rawTV, rawAV, normOk, isPure, noRefTV, noRefAV, renTV, renAV, effM, ofConst, Value.oneCell', evBin, decT]; (with_reducible refine hK _ ?_))
      refine WpA_cond rfl (fun h => by simp at h) (fun _ => WpA_exit ?_)
      show WpA _ _ _ _
      have e : ((Int.gcd a b : Nat) : Int) = x := by rw [← hg, Int.gcd_zero_right]; omega
      rw [e]
      (refine WpA_sreg [] [] (by simp) fun K hK => ?_; simp (disch := omega) only [kc, prep1, effR, Nat.reduceEqDiff, ifF, decF, packT, ty_sz51, ty_agg51, Nat.reduceAdd, Nat.le_refl, opS_store, wrS, effD, cellsOf, isPure, ifT, putCells, killTV, killAV]; (with_reducible refine hK _ ?_))
      (refine WpA_ret ⟨.inr rfl, ret_now rfl ?_ rfl⟩; simp (disch := omega) only [kc, resA, Tryz.results186, resOne, updH, Nat.reduceEqDiff, ifF, packT, ty_sz51, ty_agg51, Nat.reduceAdd, Nat.le_refl, tZ, decF])
    · have hs := sg_ne h0
      have cr := Rem_C x y h0 sx sy
      have hlt := Int.emod_lt_of_pos x (show 0 < y by omega)
      have hnn := Int.emod_nonneg x h0
      (refine WpA_seq (WpA_sreg [⟨1, _, _, _, cs⟩] [] (by simp) fun K hK => ?_); simp (disch := omega) only [kc, tZ, decF, CItem.a, prep1, Nat.reduceAdd, Hm, effR, Nat.reduceEqDiff, ifF, packT, ty_sz51, ty_agg51, Nat.le_refl, opS_call, newS, effA, List.find?_cons, evAll, norm, CallRes.plain, rawTV, rawAV, normOk, isPure, noRefTV, noRefAV, renTV, renAV, effM, ofConst, Value.oneCell', evBin, Bool.not_false]; (with_reducible refine hK _ ?_))
      refine WpA_cond rfl (fun _ => WpA_skip ?_) (fun h => by simp at h <;> omega)
      refine WpA_block ?_
      ((refine WpA_ldraw mixedA [⟨3, _, _, _, cr⟩] [] (by kernel_rfl) (by simp) fun K hK => ?_); simp (disch := omega) only [kc, tZ, decF, CItem.a, prep1, Nat.reduceAdd, effR, Nat.reduceEqDiff, ifF, packT, ty_sz51, ty_agg51, Nat.le_refl, opS_call, newS, effA, List.find?_cons, evAll, norm, CallRes.plain, rawTV, rawAV, normOk, isPure, noRefTV, noRefAV, renTV, renAV, opS_store, wrS, effD, cellsOf, ifT, putCells, killTV, killAV, updH]; (with_reducible refine hK _ ?_))
      refine ⟨⟨y, x % y, hy, hnn, by rw [gcd_step hx hy, hg], sy, sy.le (by omega)⟩, by simp only; omega, Weak_sub ⟨rfl, by simp [updH, Hm, Int.not_lt.2 hy], by simp [updH, Hm, Int.not_lt.2 hnn], trivial⟩ ?_⟩
      simp [wkL, okTV, okAV]
abbrev tR (n d : Int) : TV := .agg [.p (.raw (.bool (decide (n < 0)))), .p (.sl (ls fU (limbs n.natAbs))), .p (.raw (.bool (decide (d < 0)))), .p (.sl (ls fU (limbs d.natAbs)))]
def cR (n d : Int) : List AV := [.p (.raw (.bool (decide (n < 0)))), .p (.sl (ls fU (limbs n.natAbs))), .p (.raw (.bool (decide (d < 0)))), .p (.sl (ls fU (limbs d.natAbs)))]
def nN (n d : Int) : Int := n / (Int.gcd n d : Nat)
def nD (n d : Int) : Int := d / (Int.gcd n d : Nat)
theorem gcd_posR {n d : Int} (hd : 0 < d) : 0 < Int.gcd n d := Int.gcd_pos_of_ne_zero_right n (by omega)
theorem nN_mul {n d : Int} : nN n d * (Int.gcd n d : Nat) = n := Int.ediv_mul_cancel (Int.gcd_dvd_left n d)
theorem nD_mul {n d : Int} : nD n d * (Int.gcd n d : Nat) = d := Int.ediv_mul_cancel (Int.gcd_dvd_right n d)
theorem nD_pos {n d : Int} (hd : 0 < d) : 0 < nD n d := by
  have h := nD_mul (n := n) (d := d)
  have hg := gcd_posR (n := n) hd
  rcases Int.lt_or_le 0 (nD n d) with h' | h'
  · exact h'
  · have := Int.mul_nonpos_of_nonpos_of_nonneg h' (show (0 : Int) ≤ (Int.gcd n d : Nat) by omega)
    omega
theorem n_floor {n d : Int} (hd : 0 < d) : nN n d / nD n d = n / d := by
  have hg := gcd_posR (n := n) hd
  have : nN n d * (Int.gcd n d : Nat) / (nD n d * (Int.gcd n d : Nat)) = nN n d / nD n d := Int.mul_ediv_mul_of_pos_left _ _ (by omega)
  rw [nN_mul, nD_mul] at this
  exact this.symm
theorem nN_sz {n d : Int} {k : Nat} (h : Sz n k) : Sz (nN n d) k := h.ediv _
theorem nD_sz {n d : Int} {k : Nat} (h : Sz d k) : Sz (nD n d) k := h.ediv _
set_option maxRecDepth 100000 in
set_option maxHeartbeats 8000000 in
theorem New_C (n d : Int) (hd0 : 0 < d) (hn : Bh n) (hd : Bh d) : CallC Tryz.prog 172 [tZ n, tZ d] ⟨[], .tup [(true, cR (nN n d) (nD n d)), (false, [.p (.raw (.bool true))])]⟩ := by
  have c1 := sign_C d hd.bg
  rw [sg_pos hd0] at c1
  have c2 := Gcd_C n d hn hd
  have hg := gcd_posR (n := n) hd0
  have sg : Bh (Int.gcd n d : Nat) := hd.le (by
    have := Nat.le_of_dvd (by omega) (Int.gcd_dvd_natAbs_right n d)
    omega)
  have c3 := Quo_C n (Int.gcd n d : Nat) (by omega) hn sg
  have c4 := Quo_C d (Int.gcd n d : Nat) (by omega) hd sg
  rw [show n / (Int.gcd n d : Nat) = nN n d from rfl] at c3
  rw [show d / (Int.gcd n d : Nat) = nD n d from rfl] at c4
  generalize ((Int.gcd n d : Nat) : Int) = g at *
  generalize nN n d = n' at *
  generalize nD n d = d' at *
  refine callC_of Tryz.func172 rfl (by kernel_rfl) ?_; rw [Tryz.ntmps172]
  (refine WpA_sreg [] [] (by simp) fun K hK => ?_; simp (disch := omega) only [kc, prep1, Nat.reduceAdd, tZ, decF, List.replicate, opS_box, newS, effA, cellsOf, isPure, ifT, updH, Nat.reduceEqDiff, opS_alloc, ty_zero147, Value.oneCell', ifF, ofConst]; (with_reducible refine hK _ ?_))
  (refine WpA_seq (WpA_sreg [⟨1, _, _, _, c1⟩] [] (by simp) fun K hK => ?_); simp (disch := omega) only [kc, tZ, decF, CItem.a, prep1, Nat.reduceAdd, effR, updH, Nat.reduceEqDiff, ifF, packT, ty_sz51, ty_agg51, Nat.le_refl, opS_call, newS, effA, List.find?_cons, evAll, norm, CallRes.plain, rawTV, rawAV, normOk, isPure, noRefTV, noRefAV, renTV, renAV, effM, ofConst, Value.oneCell', evBin]; (with_reducible refine hK _ ?_))
  refine WpA_cond rfl (fun h => by simp at h) (fun _ => WpA_skip ?_)
  show WpA _ _ _ _
  (refine WpA_seq (WpA_sreg [⟨1, _, _, _, c1⟩] [] (by simp) fun K hK => ?_); simp (disch := omega) only [kc, tZ, decF, CItem.a, prep1, Nat.reduceAdd, effR, updH, Nat.reduceEqDiff, ifF, packT, ty_sz51, ty_agg51, Nat.le_refl, opS_call, newS, effA, List.find?_cons, evAll, norm, CallRes.plain, rawTV, rawAV, normOk, isPure, noRefTV, noRefAV, renTV, renAV, effM, ofConst, Value.oneCell', evBin]; (with_reducible refine hK _ ?_))
  refine WpA_cond rfl (fun h => by simp at h) (fun _ => WpA_skip ?_)
  show WpA _ _ _ _
  (refine WpA_sreg [⟨2, _, _, _, c2⟩] [] (by simp) fun K hK => ?_; simp (disch := omega) only [kc, tZ, decF, CItem.a, prep1, Nat.reduceAdd, effR, updH, Nat.reduceEqDiff, ifF, packT, ty_sz51, ty_agg51, Nat.le_refl, opS_call, newS, effA, List.find?_cons, evAll, norm, CallRes.plain, rawTV, rawAV, normOk, isPure, noRefTV, noRefAV, renTV, renAV, opS_alloc, ty_zero51, Value.oneCell', ifT, opS_store, wrS, effD, cellsOf, putCells, killTV, killAV]; (with_reducible refine hK _ ?_))
  (refine WpA_sdraw mixedA [⟨2, _, _, _, c3⟩, ⟨5, _, _, _, c4⟩] [] (by kernel_rfl) (by simp) fun K hK => ?_; simp (disch := omega) only [kc, tZ, decF, CItem.a, prep1, Nat.reduceAdd, effR, updH, Nat.reduceEqDiff, ifF, packT, ty_sz51, ty_agg51, Nat.le_refl, opS_call, newS, effA, List.find?_cons, evAll, norm, CallRes.plain, rawTV, rawAV, normOk, isPure, noRefTV, noRefAV, renTV, renAV, Nat.reduceBEq, opS_build, ty_zero147, ty_plc147, Value.oneCell', fillA, cellsOf, Nat.reduceLeDiff, ifT, opS_store, wrS, effD, ty_sz147, putCells, killTV, killAV, ofConst]; (with_reducible refine hK _ ?_))
  (refine WpA_ret ⟨.inr rfl, ret_now rfl ?_ rfl⟩; simp (disch := omega) only [kc, resA, Tryz.results172, resL, resOne, updH, Nat.reduceEqDiff, ifF, packT, ty_sz147, ty_agg147, Nat.reduceAdd, Nat.le_refl, tvPair, cR])
set_option maxRecDepth 100000 in
set_option maxHeartbeats 8000000 in
theorem Normalize2_C (n d : Int) (hd0 : 0 < d) (hn : Bh n) (hd : Bh d) : CallC Tryz.prog 152 [tR n d] ⟨[], tR (nN n d) (nD n d)⟩ := by
  have c1 := New_C n d hd0 hn hd
  generalize nN n d = n' at *
  generalize nD n d = d' at *
  refine callC_of Tryz.func152 rfl (by kernel_rfl) ?_; rw [Tryz.ntmps152]
  (refine WpA_sreg [] [] (by simp) fun K hK => ?_; simp (disch := omega) only [kc, prep1, tR, decF, List.replicate, opS_box, newS, effA, cellsOf, isPure, Nat.reduceAdd, ifT, opS_alloc, ty_zero147, Value.oneCell', updH, Nat.reduceEqDiff]; (with_reducible refine hK _ ?_))
  (refine WpA_sreg [⟨4, _, _, _, c1⟩] [] (by simp) fun K hK => ?_; simp (disch := omega) only [kc, tZ, decF, cR, CItem.a, prep1, Nat.reduceAdd, opS_fieldAddr, effR, ty_fld147_0, ty_sz51, Nat.add_zero, updH, Nat.reduceEqDiff, packT, ty_agg51, Nat.reduceLeDiff, ty_fld147_1, Nat.le_refl, opS_call, newS, effA, List.find?_cons, evAll, norm, CallRes.plain, rawTV, rawAV, normOk, isPure, noRefTV, noRefAV, renTV, renAV, opS_extract, effM, opS_alloc, ty_zero147, Value.oneCell', ifT, ifF, opS_store, wrS, effD, ty_sz147, cellsOf, putCells, killTV, killAV]; (with_reducible refine hK _ ?_))
  (refine WpA_seq (WpA_sreg [] [] (by simp) fun K hK => ?_); simp (disch := omega) only [kc, prep1, opS_un, effM, evUn]; (with_reducible refine hK _ ?_))
  refine WpA_cond rfl (fun h => by simp at h) (fun _ => WpA_skip ?_)
  show WpA _ _ _ _
  (refine WpA_sreg [] [] (by simp) fun K hK => ?_; simp (disch := omega) only [kc, prep1, effR, updH, Nat.reduceEqDiff, ifF, packT, ty_sz147, ty_agg147, Nat.reduceAdd, Nat.le_refl, opS_store, wrS, effD, cellsOf, isPure, ifT, putCells, killTV, killAV]; (with_reducible refine hK _ ?_))
  (refine WpA_ret ⟨.inr rfl, ret_now rfl ?_ rfl⟩; simp (disch := omega) only [kc, resA, Tryz.results152, resOne, updH, Nat.reduceEqDiff, ifF, packT, ty_sz147, ty_agg147, Nat.reduceAdd, Nat.le_refl, tR])
set_option maxRecDepth 100000 in
set_option maxHeartbeats 8000000 in
theorem Half_C : CallC Tryz.prog 151 [] ⟨[], tR 1 2⟩ := by
  have c1 := small_C 1 (by omega) (by omega)
  have c2 := small_C 2 (by omega) (by omega)
  refine callC_of Tryz.func151 rfl (by kernel_rfl) ?_; rw [Tryz.ntmps151]
  (refine WpA_sreg [] [] (by simp) fun K hK => ?_; simp (disch := omega) only [kc, prep1, List.replicate, opS_alloc, newS, effA, ty_zero147, Value.oneCell', Nat.reduceAdd, ifT]; (with_reducible refine hK _ ?_))
  (refine WpA_sreg [⟨0, _, _, _, c1⟩, ⟨1, _, _, _, c2⟩] [] (by simp) fun K hK => ?_; simp (disch := omega) only [kc, tZ, decF, CItem.a, prep1, Nat.reduceAdd, opS_call, newS, effA, List.find?_cons, evAll, ofConst, Value.oneCell', norm, CallRes.plain, rawTV, rawAV, normOk, noRefTV, noRefAV, renTV, renAV, Nat.reduceBEq, opS_build, effR, ty_zero147, ty_plc147, fillA, cellsOf, Nat.reduceLeDiff, Nat.le_refl, ifT, opS_store, wrS, effD, ty_sz147, updH, isPure, putCells, killTV, killAV]; (with_reducible refine hK _ ?_))
  (refine WpA_ret ⟨.inr rfl, ret_now rfl ?_ rfl⟩; simp (disch := omega) only [kc, resA, Tryz.results151, resOne, updH, ifF, packT, ty_sz147, ty_agg147, Nat.reduceAdd, Nat.le_refl, tR, decF])
set_option maxRecDepth 100000 in
set_option maxHeartbeats 8000000 in
theorem Floor_C (n d : Int) (hd0 : 0 < d) (hn : Bh n) (hd : Bh d) : CallC Tryz.prog 149 [tR n d] ⟨[], tZ (n / d)⟩ := by
  have c1 := Normalize2_C n d hd0 hn hd
  have c2 := Quo_C (nN n d) (nD n d) (by have := nD_pos (n := n) hd0; omega) (nN_sz hn) (nD_sz hd)
  rw [n_floor hd0] at c2
  generalize nN n d = n' at *
  generalize nD n d = d' at *
  refine callC_of Tryz.func149 rfl (by kernel_rfl) ?_; rw [Tryz.ntmps149]
  (refine WpA_sreg [] [] (by simp) fun K hK => ?_; simp (disch := omega) only [kc, prep1, tR, decF, List.replicate, opS_box, newS, effA, cellsOf, isPure, Nat.reduceAdd, ifT, opS_alloc, ty_zero51, Value.oneCell', updH, Nat.reduceEqDiff]; (with_reducible refine hK _ ?_))
  (refine WpA_sreg [⟨1, _, _, _, c1⟩] [] (by simp) fun K hK => ?_; simp (disch := omega) only [kc, tR, decF, CItem.a, prep1, Nat.reduceAdd, effR, updH, Nat.reduceEqDiff, packT, ty_sz147, ty_agg147, Nat.le_refl, opS_call, newS, effA, List.find?_cons, evAll, norm, CallRes.plain, rawTV, rawAV, normOk, isPure, noRefTV, noRefAV, renTV, renAV, opS_alloc, ty_zero147, Value.oneCell', ifT, ifF, opS_store, wrS, effD, cellsOf, putCells, killTV, killAV]; (with_reducible refine hK _ ?_))
  (refine WpA_sreg [⟨4, _, _, _, c2⟩] [] (by simp) fun K hK => ?_; simp (disch := omega) only [kc, tZ, CItem.a, prep1, Nat.reduceAdd, opS_fieldAddr, effR, ty_fld147_0, ty_sz51, Nat.add_zero, updH, Nat.reduceEqDiff, ifF, packT, ty_agg51, Nat.reduceLeDiff, ty_fld147_1, Nat.le_refl, opS_call, newS, effA, List.find?_cons, evAll, norm, CallRes.plain, rawTV, rawAV, normOk, isPure, noRefTV, noRefAV, renTV, renAV, opS_store, wrS, effD, cellsOf, ifT, putCells, killTV, killAV]; (with_reducible refine hK _ ?_))
  (refine WpA_ret ⟨.inr rfl, ret_now rfl ?_ rfl⟩; simp (disch := omega) only [kc, resA, Tryz.results149, resOne, updH, Nat.reduceEqDiff, ifF, packT, ty_sz51, ty_agg51, Nat.reduceAdd, Nat.le_refl, tZ])
abbrev bxR0 : List OObj := [⟨147, 4, [[.raw (.bool false), .raw (.slice none 0 0), .raw (.bool false), .raw (.slice none 0 0)]]⟩]
abbrev bxR (n d : Int) : List OObj := [⟨147, 4, [[.p (.raw (.bool (decide (n < 0)))), .p (.sl (ls fU (limbs n.natAbs))), .p (.raw (.bool false)), .p (.sl (ls fU (limbs d.natAbs)))]]⟩]
set_option maxRecDepth 100000 in
set_option maxHeartbeats 8000000 in
theorem Add2_C (a b c d : Int) (hb0 : 0 < b) (hd0 : 0 < d) (ha : Sz a 100000000) (hb : Sz b 100000000) (hc : Sz c 100000000) (hd : Sz d 100000000) :
    CallC Tryz.prog 150 [tR a b, tR c d] ⟨[], tR (nN (nN a b * nD c d + nN c d * nD a b) (nD a b * nD c d)) (nD (nN a b * nD c d + nN c d * nD a b) (nD a b * nD c d))⟩ := by
  have c1 := Normalize2_C a b hb0 (ha.mono (by omega)) (hb.mono (by omega))
  have c2 := Normalize2_C c d hd0 (hc.mono (by omega)) (hd.mono (by omega))
  have sx : Sz (nN a b) 100000000 := nN_sz ha
  have sy : Sz (nD a b) 100000000 := nD_sz hb
  have su : Sz (nN c d) 100000000 := nN_sz hc
  have sv : Sz (nD c d) 100000000 := nD_sz hd
  have py := nD_pos (n := a) hb0
  have pv := nD_pos (n := c) hd0
  generalize nN a b = x at *
  generalize nD a b = y at *
  generalize nN c d = u at *
  generalize nD c d = v at *
  have z1 : Sz (x * v) 200000000 := (sx.mul sv).mono (by omega)
  have z2 : Sz (u * y) 200000000 := (su.mul sy).mono (by omega)
  have z3 : Sz (x * v + u * y) 200000001 := z1.add z2
  have z4 : Sz (y * v) 200000000 := (sy.mul sv).mono (by omega)
  have m1 := Mul_C x v (sx.mono (by omega)) (sv.mono (by omega))
  have m2 := Mul_C u y (su.mono (by omega)) (sy.mono (by omega))
  have m3 := Add_C (x * v) (u * y) (z1.mono (by omega)) (z2.mono (by omega))
  have m4 := Mul_C y v (sy.mono (by omega)) (sv.mono (by omega))
  have m5 := New_C (x * v + u * y) (y * v) (Int.mul_pos py pv) (z3.mono (by omega)) (z4.mono (by omega))
  generalize nN (x * v + u * y) (y * v) = rn at *
  generalize nD (x * v + u * y) (y * v) = rd at *
  refine callC_of Tryz.func150 rfl (by kernel_rfl) ?_; rw [Tryz.ntmps150]
  (refine WpA_sreg [] [] (by simp) fun K hK => ?_; simp (disch := omega) only [kc, prep1, Nat.reduceAdd, tR, decF, List.replicate, opS_box, newS, effA, cellsOf, isPure, ifT, updH, Nat.reduceEqDiff, opS_alloc, ty_zero147, Value.oneCell', ifF]; (with_reducible refine hK _ ?_))
  (refine WpA_sdraw mixedA [⟨1, _, _, _, c1⟩, ⟨3, _, _, _, c2⟩] [] (by kernel_rfl) (by simp) fun K hK => ?_; simp (disch := omega) only [kc, tR, decF, CItem.a, prep1, Nat.reduceAdd, effR, updH, Nat.reduceEqDiff, ifF, packT, ty_sz147, ty_agg147, Nat.le_refl, opS_call, newS, effA, List.find?_cons, evAll, norm, CallRes.plain, rawTV, rawAV, normOk, isPure, noRefTV, noRefAV, renTV, renAV, Nat.reduceBEq, opS_alloc, ty_zero147, Value.oneCell', ifT, opS_store, wrS, effD, cellsOf, putCells, killTV, killAV]; (with_reducible refine hK _ ?_))
  refine WpA.weak (Weak_sub (tm := [jk, jk, jk, jk, .one (.ptr 4 0 0 0), .one (.ptr 5 0 0 0), .one (.ptr 6 0 0 0), jk, jk, jk, jk, jk, jk, jk, jk, jk, jk, jk, jk, jk, jk, jk, jk, jk, jk, jk, jk, jk, jk, jk, jk, jk, jk, jk]) (l := [(4, bxR0), (5, bxR x y), (6, bxR u v)]) ⟨rfl, rfl, rfl, trivial⟩ (by simp [wkL, okTV, okAV])) ?_
  (refine WpA_sdraw mixedA [⟨4, _, _, _, m1⟩, ⟨9, _, _, _, m2⟩, ⟨10, _, _, _, m3⟩, ⟨15, _, _, _, m4⟩, ⟨16, _, _, _, m5⟩] [] (by kernel_rfl) (by simp) fun K hK => ?_; simp (disch := omega) only [kc, tZ, decF, cR, CItem.a, prep1, Nat.reduceAdd, Hm, opS_fieldAddr, effR, ty_fld147_0, ty_sz51, Nat.add_zero, Nat.reduceEqDiff, ifF, packT, ty_agg51, Nat.reduceLeDiff, ty_fld147_1, Nat.le_refl, opS_call, newS, effA, List.find?_cons, evAll, norm, CallRes.plain, rawTV, rawAV, normOk, isPure, noRefTV, noRefAV, renTV, renAV, Nat.reduceBEq, opS_extract, effM, opS_alloc, ty_zero147, Value.oneCell', ifT, opS_store, wrS, effD, ty_sz147, updH, cellsOf, putCells, killTV, killAV]; (with_reducible refine hK _ ?_))
  (refine WpA_sreg [] [] (by simp) fun K hK => ?_; simp (disch := omega) only [kc, prep1, effR, updH, Nat.reduceEqDiff, ifF, packT, ty_sz147, ty_agg147, Nat.reduceAdd, Nat.le_refl, opS_store, wrS, effD, cellsOf, isPure, ifT, putCells, killTV, killAV]; (with_reducible refine hK _ ?_))
  (refine WpA_ret ⟨.inr rfl, ret_now rfl ?_ rfl⟩; simp (disch := omega) only [kc, resA, Tryz.results150, resOne, updH, Nat.reduceEqDiff, ifF, packT, ty_sz147, ty_agg147, Nat.reduceAdd, Nat.le_refl, tR])
theorem near_eq {p q : Int} (hq : 0 < q) : nN (nN p q * nD 1 2 + nN 1 2 * nD p q) (nD p q * nD 1 2) / nD (nN p q * nD 1 2 + nN 1 2 * nD p q) (nD p q * nD 1 2) = (2 * p + q) / (2 * q) := by
  have e1 : nN 1 2 = 1 := by decide
  have e2 : nD 1 2 = 2 := by decide
  have hp := nD_pos (n := p) hq
  rw [e1, e2, n_floor (by omega)]
  have hg := gcd_posR (n := p) hq
  have a1 := nN_mul (n := p) (d := q)
  have a2 := nD_mul (n := p) (d := q)
  have : (nN p q * 2 + 1 * nD p q) * (Int.gcd p q : Nat) / ((nD p q * 2) * (Int.gcd p q : Nat)) = (nN p q * 2 + 1 * nD p q) / (nD p q * 2) := Int.mul_ediv_mul_of_pos_left _ _ (by omega)
  rw [← this]
  congr 1
  · rw [Int.add_mul, Int.one_mul, Int.mul_right_comm, a1, a2]; omega
  · rw [Int.mul_right_comm, a2]; omega
set_option maxRecDepth 100000 in
set_option maxHeartbeats 8000000 in
theorem Nearest_C (p q : Int) (hq0 : 0 < q) (hp : Sz p 100000000) (hq : Sz q 100000000) : CallC Tryz.prog 122 [tR p q] ⟨[], tZ ((2 * p + q) / (2 * q))⟩ := by
  have c2 := Add2_C p q 1 2 hq0 (by omega) hp hq (sz_one (by omega)) (sz_lt (by decide) (by omega))
  have hx : Sz (nN p q) 100000000 := nN_sz hp
  have hy : Sz (nD p q) 100000000 := nD_sz hq
  have hyp := nD_pos (n := p) hq0
  have e1 : nN 1 2 = 1 := by decide
  have e2 : nD 1 2 = 2 := by decide
  have z2 : Sz (2 : Int) 1 := sz_lt (by decide) (by omega)
  have zn : Sz (nN p q * nD 1 2 + nN 1 2 * nD p q) 100000002 := by
    rw [e1, e2]
    refine Sz.add (k := 100000001) ((hx.mul z2).mono (by omega)) ?_
    rw [Int.one_mul]
    exact hy.mono (by omega)
  have zd : Sz (nD p q * nD 1 2) 100000001 := by rw [e2]; exact (hy.mul z2).mono (by omega)
  have c3 := Floor_C (nN (nN p q * nD 1 2 + nN 1 2 * nD p q) (nD p q * nD 1 2)) (nD (nN p q * nD 1 2 + nN 1 2 * nD p q) (nD p q * nD 1 2)) (nD_pos (by rw [e2]; omega)) ((nN_sz zn).mono (by omega)) ((nD_sz zd).mono (by omega))
  rw [near_eq hq0] at c3
  generalize nN (nN p q * nD 1 2 + nN 1 2 * nD p q) (nD p q * nD 1 2) = rn at *
  generalize nD (nN p q * nD 1 2 + nN 1 2 * nD p q) (nD p q * nD 1 2) = rd at *
  have c1 := Half_C
  refine callC_of Tryz.func122 rfl (by kernel_rfl) ?_; rw [Tryz.ntmps122]
  (refine WpA_sreg [] [] (by simp) fun K hK => ?_; simp (disch := omega) only [kc, prep1, tR, decF, List.replicate, opS_box, newS, effA, cellsOf, isPure, Nat.reduceAdd, ifT, opS_alloc, ty_zero51, Value.oneCell', updH, Nat.reduceEqDiff]; (with_reducible refine hK _ ?_))
  (refine WpA_sdraw mixedA [⟨1, _, _, _, c1⟩, ⟨2, _, _, _, c2⟩, ⟨3, _, _, _, c3⟩] [] (by kernel_rfl) (by simp) fun K hK => ?_; simp (disch := omega) only [kc, tR, decF, tZ, CItem.a, prep1, Nat.reduceAdd, effR, updH, Nat.reduceEqDiff, packT, ty_sz147, ty_agg147, Nat.le_refl, opS_call, newS, effA, List.find?_cons, evAll, CallRes.plain, rawTV, rawAV, noRefTV, noRefAV, renTV, renAV, Nat.reduceBEq, norm, normOk, isPure, opS_store, wrS, effD, ty_sz51, cellsOf, ifT, putCells, killTV, killAV]; (with_reducible refine hK _ ?_))
  (refine WpA_ret ⟨.inr rfl, ret_now rfl ?_ rfl⟩; simp (disch := omega) only [kc, resA, Tryz.results122, resOne, updH, Nat.reduceEqDiff, ifF, packT, ty_sz51, ty_agg51, Nat.reduceAdd, Nat.le_refl, tZ])
set_option maxRecDepth 100000 in
set_option maxHeartbeats 8000000 in
theorem Quotient_C (p q : Int) (hq0 : 0 < q) (hp : Bh p) (hq : Bh q) : CallC Tryz.prog 123 [tZ p, tZ q] ⟨[], tR (nN p q) (nD p q)⟩ := by
  have c1 := Normalize2_C p q hq0 hp hq
  generalize nN p q = n' at *
  generalize nD p q = d' at *
  refine callC_of Tryz.func123 rfl (by kernel_rfl) ?_; rw [Tryz.ntmps123]
  (refine WpA_sreg [] [] (by simp) fun K hK => ?_; simp (disch := omega) only [kc, prep1, Nat.reduceAdd, tZ, decF, List.replicate, opS_box, newS, effA, cellsOf, isPure, ifT, updH, Nat.reduceEqDiff, opS_alloc, ty_zero147, Value.oneCell', ifF]; (with_reducible refine hK _ ?_))
  (refine WpA_sreg [⟨3, _, _, _, c1⟩] [] (by simp) fun K hK => ?_; simp (disch := omega) only [kc, tR, decF, CItem.a, prep1, Nat.reduceAdd, effR, updH, Nat.reduceEqDiff, ifF, packT, ty_sz51, ty_agg51, Nat.le_refl, opS_build, ty_zero147, ty_plc147, Value.oneCell', fillA, cellsOf, Nat.reduceLeDiff, ifT, opS_call, newS, effA, List.find?_cons, evAll, norm, CallRes.plain, rawTV, rawAV, normOk, isPure, noRefTV, noRefAV, renTV, renAV, opS_store, wrS, effD, ty_sz147, putCells, killTV, killAV]; (with_reducible refine hK _ ?_))
  (refine WpA_ret ⟨.inr rfl, ret_now rfl ?_ rfl⟩; simp (disch := omega) only [kc, resA, Tryz.results123, resOne, updH, Nat.reduceEqDiff, ifF, packT, ty_sz147, ty_agg147, Nat.reduceAdd, Nat.le_refl, tR])
def qF (l d : Int) : Int := (2 * l + d) / (2 * d)
theorem qF_n {l d : Int} (hd : 0 < d) : (2 * nN l d + nD l d) / (2 * nD l d) = qF l d := by
  have hg := gcd_posR (n := l) hd
  have a1 := nN_mul (n := l) (d := d)
  have a2 := nD_mul (n := l) (d := d)
  have : (2 * nN l d + nD l d) * (Int.gcd l d : Nat) / ((2 * nD l d) * (Int.gcd l d : Nat)) = (2 * nN l d + nD l d) / (2 * nD l d) := Int.mul_ediv_mul_of_pos_left _ _ (by omega)
  rw [← this, qF]
  congr 1
  · rw [Int.add_mul, Int.mul_assoc, a1, a2]
  · rw [Int.mul_assoc, a2]
end Go.Proofs.YtennjcjjegbhgaaGreat
