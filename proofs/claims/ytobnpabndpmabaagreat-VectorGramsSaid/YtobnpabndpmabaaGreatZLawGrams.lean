/-
  Proved: the statement VectorGramsSaid: for every input the law quadformlaw09.VectorGrams returns true, and each argument reads afterwards as it read before. No condition.
-/
import Derived.Test.YtobnpabndpmabaaGreatP16
set_option linter.all false
namespace Go.Proofs.YtobnpabndpmabaaGreat
open Go.RowKit
theorem rwI_kill (k : Nat → Nat → Bool) (R : List (List Int)) : (R.map rwI).map (killO k) = R.map rwI := by
  rw [List.map_map]
  exact List.map_congr_left fun r _ => by simp [killO, rwI, lc_kill]
def gpI (d n c : Nat) (f : Nat → Nat → Int) (i j : Nat) : List OObj := ⟨29, 1, spn d (List.replicate i c) ++ [.sl d (i + 1) 0 (j + 1)] :: List.replicate (n - i - 1) nilC⟩ :: ((mat i c f).map rwI ++ [rwI (rowF (j + 1) (f i))])
def gpS (d n c : Nat) (f : Nat → Nat → Int) (i : Nat) : Nat → List OObj
  | 0 => kI d n c i f
  | j + 1 => gpI d n c f i j
theorem gp_row {d n c i : Nat} (f : Nat → Nat → Int) (hc : 1 ≤ c) (hi : i < n) : gpS d n c f i c = kI d n c (i + 1) f := by
  obtain ⟨j, rfl⟩ : ∃ j, c = j + 1 := ⟨c - 1, by omega⟩
  show gpI d n (j + 1) f i j = _
  unfold gpI kI
  rw [mat_snoc, List.replicate_succ' (n := i), spn_snoc, List.length_replicate]
  simp [Nat.sub_sub]
theorem gp_open {d n c i : Nat} (f : Nat → Nat → Int) (hi : i < n) : kI d n c i f = ⟨29, 1, spn d (List.replicate i c) ++ nilC :: List.replicate (n - i - 1) nilC⟩ :: (mat i c f).map rwI := by
  unfold kI
  rw [show n - i = n - i - 1 + 1 by omega, List.replicate_succ]; rfl
structure GrG (n : Nat) (p : Nat → Prop) where
  i : Nat
  hi : i ≤ n
  h : ∀ a, a < i → p a
theorem getD_at {l : List (List Int)} {i : Nat} (h : i < l.length) : l[i]? = some (l.getD i []) := by
  obtain ⟨x, hx⟩ := getElem?_of_lt h
  rw [List.getD_eq_getElem?_getD, hx]; rfl
set_option maxRecDepth 100000 in
set_option maxHeartbeats 8000000 in
theorem rGram_C (M l : List (List Int)) (hM : MI M) (hl : l.length ≤ 16) : CallC Tryz.prog 18 [slI M, slI l] ⟨[], grT (grL M l) (grB M l)⟩ := by
  have hno : ¬ GrP M l → grT (grL M l) (grB M l) = grT [] false := grT_no
  have hyes : GrP M l → grT (grL M l) (grB M l) = grT (mat l.length l.length (vG M l)) true := grT_yes
  generalize grT (grL M l) (grB M l) = r at *
  have cR := IsReduced_C M hM
  cases hred : isReducedM M with
  | false =>
    rw [hred] at cR
    rw [hno (fun h => by rw [h.1] at hred; cases hred)]
    refine callC_of Tryz.func18 rfl (by kernel_rfl) ?_; rw [Tryz.ntmps18]
    (refine WpA_sreg [] [] (by simp) fun K hK => ?_; simp (disch := omega) only [kc, prep1, slI, Nat.reduceAdd, List.replicate, ofConst, Value.oneCell']; (with_reducible refine hK _ ?_))
    (refine WpA_seq (WpA_sreg [⟨1, _, _, _, cR⟩] [] (by simp) fun K hK => ?_); simp (disch := omega) only [kc, slI, CItem.a, prep1, Nat.reduceAdd, opS_call, newS, effA, List.find?_cons, evAll, norm, CallRes.plain, rawTV, rawAV, normOk, noRefTV, noRefAV, renTV, renAV, opS_un, effM, evUn, Bool.not_false]; (with_reducible refine hK _ ?_))
    refine WpA_cond rfl (fun _ => ?_) (fun h => by simp at h)
    (refine WpA_sreg [] [] (by simp) fun K hK => ?_; simp (disch := omega) only [kc, prep1, ofConst, Value.oneCell']; (with_reducible refine hK _ ?_))
    refine WpA_ret ⟨.inr rfl, ret_zs 4 rfl rfl ?_ rfl⟩
    simp (disch := omega) only [kc, resA, Tryz.results18, resL, resOne, tvPair, grT, ls_nil]
  | true =>
    rw [hred] at cR
    obtain ⟨n, hn⟩ : ∃ n, n = l.length := ⟨_, rfl⟩
    rw [← hn] at hyes hl
    have hln := hn.symm
    refine callC_of Tryz.func18 rfl (by kernel_rfl) ?_; rw [Tryz.ntmps18]
    (refine WpA_sreg [] [] (by simp) fun K hK => ?_; simp (disch := omega) only [kc, prep1, slI, Nat.reduceAdd, List.replicate, ofConst, Value.oneCell']; (with_reducible refine hK _ ?_))
    (refine WpA_seq (WpA_sreg [⟨1, _, _, _, cR⟩] [] (by simp) fun K hK => ?_); simp (disch := omega) only [kc, slI, CItem.a, prep1, Nat.reduceAdd, opS_call, newS, effA, List.find?_cons, evAll, norm, CallRes.plain, rawTV, rawAV, normOk, noRefTV, noRefAV, renTV, renAV, opS_un, effM, evUn]; (with_reducible refine hK _ ?_))
    refine WpA_cond rfl (fun h => by simp at h) (fun _ => WpA_skip ?_)
    show WpA _ _ _ _
    (refine WpA_sreg [] [] (by simp) fun K hK => ?_; simp (disch := omega) only [kc, prep1, Nat.reduceAdd, opS_len, effR, ty_slice26, ls_len, hln, opS_makeSlice, newS, effA, ty_zero29, ty_sz29, ty_by29, Int.natCast_nonneg, Value.oneCell', and_true, ifT]; (with_reducible refine hK _ ?_))
    (refine WpA_seq (WpA_sreg [] [] (by simp) fun K hK => ?_); simp (disch := omega) only [kc, prep1, Nat.reduceAdd, opS_len, effR, ty_slice26, ls_len, hln, ofConst, Value.oneCell']; (with_reducible refine hK _ ?_))
    refine WpA_forb (G := GrG n (fun a => ∀ b, b < n → PG M l a b)) (fun g => ⟨[slI M, slI l, jk, jk, jk, jk, .one (.sl 16 0 0 n), jk, jk, jk, jk, jk, jk, jk, jk, jk, jk, jk, .raw (.int .i64 (n : Int)), .raw (.int .i64 (g.i : Int)), jk, jk, jk, jk, jk, jk, jk, jk, jk, jk, jk, jk, jk, jk, jk, jk, jk, jk, jk, jk, jk, jk, jk, jk, jk, jk, jk, jk, jk, jk, jk, jk, jk, jk, jk], Hm [(16, kI 16 n n g.i (vG M l))]⟩) (fun g => n - g.i) ⟨0, by omega, fun a h => by omega⟩ ?_ ?_
    · refine Weak_sub ⟨?_, trivial⟩ ?_
      · show [_] = _
        simp [kI, spn, mat]
      · simp [wkL, okTV, okAV]
    · rintro ⟨i, hi, hg⟩
      simp only
      by_cases hm : i < n
      · have hli := getD_at (l := l) (i := i) (by omega)
        have hmi := mat_len i n (vG M l)
        have hsl : (spn 16 (List.replicate i n)).length = i := by rw [spn_len, List.length_replicate]
        have hrl : ((mat i n (vG M l)).map rwI).length = i := by rw [List.length_map, hmi]
        (refine WpA_sreg [] [] (by simp) fun K hK => ?_; simp (disch := omega) only [kc, prep1, slI, Hm, effM, evBin, decT]; (with_reducible refine hK _ ?_))
        refine WpA_seq (WpA_cond rfl (fun _ => WpA_skip ?_) (fun h => by simp at h <;> omega))
        refine WpA_seq (WpA_block ?_)
        (refine WpA_sreg [] [] (by simp) fun K hK => ?_; simp (disch := omega) only [kc, prep1]; (with_reducible refine hK _ ?_))
        (refine WpA_sreg [] [] (by simp) fun K hK => ?_; simp (disch := omega) only [kc, prep1, Nat.reduceAdd, opS_len, effR, ty_slice26, ls_len, hln, ofConst, Value.oneCell']; (with_reducible refine hK _ ?_))
        refine WpA_forb (G := GrG n (fun b => PG M l i b)) (fun g => ⟨[slI M, slI l, jk, jk, jk, jk, .one (.sl 16 0 0 n), .raw (.int .i64 (i : Int)), jk, jk, jk, jk, jk, jk, jk, jk, jk, jk, .raw (.int .i64 (n : Int)), .raw (.int .i64 (i : Int)), jk, jk, jk, .raw (.int .i64 (n : Int)), .raw (.int .i64 (g.i : Int)), jk, jk, jk, jk, jk, jk, jk, jk, jk, jk, jk, jk, jk, jk, jk, jk, jk, jk, jk, jk, jk, jk, jk, jk, jk, jk, jk, jk, jk, jk], Hm [(16, gpS 16 n n (vG M l) i g.i)]⟩) (fun g => n - g.i) ⟨0, by omega, fun a h => by omega⟩ ?_ ?_
        · refine Weak_sub ⟨rfl, trivial⟩ ?_
          simp [wkL, okTV, okAV]
        · rintro ⟨j, hj, hh⟩
          simp only
          by_cases hm2 : j < n
          · have hlj := getD_at (l := l) (i := j) (by omega)
            have cI := Inner_C M (l.getD i []) (l.getD j []) hM
            by_cases hp : PG M l i j
            · rw [innT_PG hred hp] at cI
              generalize l.getD i [] = xi at *
              generalize l.getD j [] = xj at *
              have hh' : ∀ a, a < j + 1 → PG M l i a := fun a ha => by
                by_cases h : a = j
                · subst h; exact hp
                · exact hh a (by omega)
              cases j with
              | zero =>
                rw [gpS, gp_open (vG M l) hm]
                (refine WpA_sreg [] [] (by simp) fun K hK => ?_; simp (disch := omega) only [kc, prep1, slI, Hm, effM, evBin, decT]; (with_reducible refine hK _ ?_))
                refine WpA_seq (WpA_cond rfl (fun _ => WpA_skip ?_) (fun h => by simp at h <;> omega))
                refine WpA_seq (WpA_block ?_)
                (refine WpA_sreg [] [] (by simp) fun K hK => ?_; simp (disch := omega) only [kc, prep1]; (with_reducible refine hK _ ?_))
                (refine WpA_sdraw mixedA [⟨9, _, _, _, cI⟩] [] (by kernel_rfl) (by simp) fun K hK => ?_; simp (disch := omega) only [kc, slI, sl1, tvI, CItem.a, prep1, Nat.reduceAdd, opS_indexAddr, effR, natOf_pos, ty_slice26, ls_get, hli, fR, ty_sz29, packT, ty_agg29, hlj, opS_call, newS, effA, List.find?_cons, evAll, norm, CallRes.plain, rawTV, rawAV, normOk, noRefTV, noRefAV, renTV, renAV, opS_extract, effM]; (with_reducible refine hK _ ?_))
                (refine WpA_seq (WpA_sreg [] [] (by simp) fun K hK => ?_); simp (disch := omega) only [kc, prep1, opS_un, effM, evUn]; (with_reducible refine hK _ ?_))
                refine WpA_cond rfl (fun h => by simp at h) (fun _ => WpA_skip ?_)
                show WpA _ _ _ _
                ((refine WpA_lreg [] [] (by simp) fun K hK => ?_); simp (disch := omega) only [kc, prep1, Nat.reduceAdd, opS_indexAddr, effR, natOf_pos, ty_slice26, ty_sz29, ifT, mid_get hsl, packT, ty_agg29, opS_buildSlice, newS, effA, ty_slice29, ty_zero2, ty_sz2, litA, cellsOf, isPure, Nat.reduceMul, Nat.reduceLeDiff, List.contains_nil, unP, opS_append, appS, effD, newsOf, ty_by2, allcons, allnil, and_true, Nat.reduceEqDiff, updH, opS_store, wrS, putCells, mid_set hsl, ifF, List.length_map, hmi, killTV, killAV, Nat.reduceBEq]; (with_reducible refine hK _ ?_))
                show WpA _ _ _ _
                ((refine WpA_lreg [] [] (by simp) fun K hK => ?_); simp (disch := omega) only [kc, prep1, effM, ofConst, Value.oneCell', evBin, wrapI]; (with_reducible refine hK _ ?_))
                refine ⟨⟨1, by omega, hh'⟩, by simp only; omega, Weak_sub ⟨?_, trivial⟩ ?_⟩
                · rfl
                · simp [wkL, okTV, okAV]
              | succ j =>
                have h01 : (0 == i + 1) = false := by simp
                rw [gpS, gpI]
                (refine WpA_sreg [] [] (by simp) fun K hK => ?_; simp (disch := omega) only [kc, prep1, slI, Hm, effM, evBin, decT]; (with_reducible refine hK _ ?_))
                refine WpA_seq (WpA_cond rfl (fun _ => WpA_skip ?_) (fun h => by simp at h <;> omega))
                refine WpA_seq (WpA_block ?_)
                (refine WpA_sreg [] [] (by simp) fun K hK => ?_; simp (disch := omega) only [kc, prep1]; (with_reducible refine hK _ ?_))
                (refine WpA_sdraw mixedA [⟨9, _, _, _, cI⟩] [] (by kernel_rfl) (by simp) fun K hK => ?_; simp (disch := omega) only [kc, slI, sl1, tvI, CItem.a, prep1, Nat.reduceAdd, opS_indexAddr, effR, natOf_pos, ty_slice26, ls_get, hli, fR, ty_sz29, packT, ty_agg29, hlj, opS_call, newS, effA, List.find?_cons, evAll, norm, CallRes.plain, rawTV, rawAV, normOk, noRefTV, noRefAV, renTV, renAV, opS_extract, effM]; (with_reducible refine hK _ ?_))
                (refine WpA_seq (WpA_sreg [] [] (by simp) fun K hK => ?_); simp (disch := omega) only [kc, prep1, opS_un, effM, evUn]; (with_reducible refine hK _ ?_))
                refine WpA_cond rfl (fun h => by simp at h) (fun _ => WpA_skip ?_)
                show WpA _ _ _ _
                ((refine WpA_lreg [] [] (by simp) fun K hK => ?_); simp (disch := omega) only [kc, prep1, Nat.reduceAdd, rwI, opS_indexAddr, effR, natOf_pos, ty_slice26, ty_sz29, ifT, mid_get hsl, packT, ty_agg29, opS_buildSlice, newS, effA, ty_slice29, ty_zero2, ty_sz2, litA, cellsOf, isPure, Nat.reduceMul, Nat.reduceLeDiff, List.contains_nil, unP, opS_append, appS, effD, newsOf, mid_get hrl, ty_by2, lc_allp, lc_len, rowF_len, allcons, allnil, and_true, killO, List.map_append, spn_kill, killAV, List.map_replicate, rwI_kill, lc_kill, lcI_snoc, mid_set hrl, wrS, killTV, h01, updH, ifF, opS_store, putCells, mid_set hsl, reduceCtorEq, false_and, List.length_append, hrl]; (with_reducible refine hK _ ?_))
                show WpA _ _ _ _
                ((refine WpA_lreg [] [] (by simp) fun K hK => ?_); simp (disch := omega) only [kc, prep1, effM, ofConst, Value.oneCell', evBin, wrapI]; (with_reducible refine hK _ ?_))
                refine ⟨⟨j + 1 + 1, by omega, hh'⟩, by simp only; omega, Weak_sub ⟨?_, trivial⟩ ?_⟩
                · show _ = gpI 16 n n (vG M l) i (j + 1)
                  rw [gpI, rwI, rowF_snoc (j + 1)]; rfl
                · simp [wkL, okTV, okAV]
            · rw [innT_nPG hred hp] at cI
              have hr := hno (fun h => hp (h.2 i (by omega) j (by omega)))
              generalize l.getD i [] = xi at *
              generalize l.getD j [] = xj at *
              (refine WpA_sreg [] [] (by simp) fun K hK => ?_; simp (disch := omega) only [kc, prep1, slI, Hm, effM, evBin, decT]; (with_reducible refine hK _ ?_))
              refine WpA_seq (WpA_cond rfl (fun _ => WpA_skip ?_) (fun h => by simp at h <;> omega))
              refine WpA_seq (WpA_block ?_)
              (refine WpA_sreg [] [] (by simp) fun K hK => ?_; simp (disch := omega) only [kc, prep1]; (with_reducible refine hK _ ?_))
              (refine WpA_sdraw mixedA [⟨9, _, _, _, cI⟩] [] (by kernel_rfl) (by simp) fun K hK => ?_; simp (disch := omega) only [kc, slI, sl1, tvI, CItem.a, prep1, Nat.reduceAdd, opS_indexAddr, effR, natOf_pos, ty_slice26, ls_get, hli, fR, ty_sz29, packT, ty_agg29, hlj, opS_call, newS, effA, List.find?_cons, evAll, norm, CallRes.plain, rawTV, rawAV, normOk, noRefTV, noRefAV, renTV, renAV, opS_extract, effM]; (with_reducible refine hK _ ?_))
              (refine WpA_seq (WpA_sreg [] [] (by simp) fun K hK => ?_); simp (disch := omega) only [kc, prep1, opS_un, effM, evUn, Bool.not_false]; (with_reducible refine hK _ ?_))
              refine WpA_cond rfl (fun _ => ?_) (fun h => by simp at h)
              (refine WpA_sreg [] [] (by simp) fun K hK => ?_; simp (disch := omega) only [kc, prep1, ofConst, Value.oneCell']; (with_reducible refine hK _ ?_))
              refine WpA_ret ⟨.inr rfl, ret_zs 4 rfl rfl ?_ (by rw [hr]; rfl)⟩
              rw [hr]
              simp (disch := omega) only [kc, resA, Tryz.results18, resL, resOne, tvPair, grT, ls_nil]
          · have hjc : j = n := by omega
            subst hjc
            (refine WpA_sreg [] [] (by simp) fun K hK => ?_; simp (disch := omega) only [kc, prep1, slI, Hm, effM, evBin, decF]; (with_reducible refine hK _ ?_))
            refine WpA_seq (WpA_cond rfl (fun h => by simp at h <;> omega) (fun _ => WpA_exit ?_))
            show WpA _ _ _ _
            rw [gp_row _ (by omega) hm]
            ((refine WpA_lreg [] [] (by simp) fun K hK => ?_); simp (disch := omega) only [kc, prep1, effM, ofConst, Value.oneCell', evBin, wrapI]; (with_reducible refine hK _ ?_))
            refine ⟨⟨i + 1, by omega, fun a ha => ?_⟩, by simp only; omega, Weak_sub ⟨rfl, trivial⟩ ?_⟩
            · by_cases h : a = i
              · subst h; exact hh
              · exact hg a (by omega)
            · simp [wkL, okTV, okAV]
      · have hin : i = n := by omega
        subst hin
        have hr := hyes ⟨hred, fun a ha b hb => hg a (by omega) b (by omega)⟩
        (refine WpA_sreg [] [] (by simp) fun K hK => ?_; simp (disch := omega) only [kc, prep1, slI, Hm, effM, evBin, decF]; (with_reducible refine hK _ ?_))
        refine WpA_seq (WpA_cond rfl (fun h => by simp at h <;> omega) (fun _ => WpA_exit ?_))
        show WpA _ _ _ _
        rw [kI_end]
        refine WpA.weak ((Weak_fz 16 (fzOk_mxI (d := 16) (n := i) (c := i) (f := vG M l) rfl)).trans (Weak_sub (tm := [jk, jk, jk, jk, jk, jk, slI (mat i i (vG M l)), jk, jk, jk, jk, jk, jk, jk, jk, jk, jk, jk, jk, jk, jk, jk, jk, jk, jk, jk, jk, jk, jk, jk, jk, jk, jk, jk, jk, jk, jk, jk, jk, jk, jk, jk, jk, jk, jk, jk, jk, jk, jk, jk, jk, jk, jk, jk, jk]) (l := []) trivial (by simp [wkL, okTV, okAV]; exact (fzMI (H := Hm [(16, mxI 16 i i (vG M l))]) (d := 16) (n := i) (c := i) (f := vG M l) rfl).symm))) ?_
        rw [hr]
        (refine WpA_sreg [] [] (by simp) fun K hK => ?_; simp (disch := omega) only [kc, prep1, Nat.reduceAdd, slI, Hm, ofConst, Value.oneCell']; (with_reducible refine hK _ ?_))
        (refine WpA_ret ⟨.inr rfl, ret_now rfl ?_ rfl⟩; simp (disch := omega) only [resA, Tryz.results18, resL, resOne, List.getElem?_cons_succ, List.getElem?_cons_zero, Option.bind_some, tvPair, Option.map_some, grT])
end Go.Proofs.YtobnpabndpmabaaGreat
namespace Go.Proofs.YtobnpabndpmabaaGreat
open Go.RowKit
def gmP (f : Nat → Nat → Int) (i j : Nat) : Nat → Nat → Int := fun a b => if (a < i ∧ b < i) ∨ (a = i ∧ b < j) ∨ (b = i ∧ a < j) then f a b else 0
theorem gmP_step {f : Nat → Nat → Int} {i j : Nat} {v : Int} (h1 : f i j = v) (h2 : f j i = v) (a b : Nat) : upd (upd (gmP f i j) i j v) j i v a b = gmP f i (j + 1) a b := by
  by_cases c1 : a = j ∧ b = i
  · obtain ⟨rfl, rfl⟩ := c1
    rw [upd_at, ← h2]
    exact (if_pos (.inr (.inr ⟨rfl, by omega⟩))).symm
  · rw [upd_ne (by omega)]
    by_cases c2 : a = i ∧ b = j
    · obtain ⟨rfl, rfl⟩ := c2
      rw [upd_at, ← h1]
      exact (if_pos (.inr (.inl ⟨rfl, by omega⟩))).symm
    · rw [upd_ne (by omega)]
      unfold gmP
      have : ((a < i ∧ b < i) ∨ (a = i ∧ b < j) ∨ (b = i ∧ a < j)) ↔ ((a < i ∧ b < i) ∨ (a = i ∧ b < j + 1) ∨ (b = i ∧ a < j + 1)) := by omega
      simp only [this]
theorem gmP_row (f : Nat → Nat → Int) (i a b : Nat) : gmP f i (i + 1) a b = gmP f (i + 1) 0 a b := by
  unfold gmP
  have : ((a < i ∧ b < i) ∨ (a = i ∧ b < i + 1) ∨ (b = i ∧ a < i + 1)) ↔ ((a < i + 1 ∧ b < i + 1) ∨ (a = i + 1 ∧ b < 0) ∨ (b = i + 1 ∧ a < 0)) := by omega
  simp only [this]
theorem gmP_end {f : Nat → Nat → Int} {n a b : Nat} (ha : a < n) (hb : b < n) : gmP f n 0 a b = f a b := if_pos (.inl ⟨ha, hb⟩)
theorem gmP_zero (f : Nat → Nat → Int) (a b : Nat) : gmP f 0 0 a b = 0 := if_neg (by omega)
set_option maxRecDepth 100000 in
set_option maxHeartbeats 16000000 in
theorem pGram_C (M l : List (List Int)) (hl : l.length ≤ 16) : CallC Tryz.prog 17 [slI M, slI l] ⟨[], grT (grL M l) (grB M l)⟩ := by
  have hno : ¬ GrP M l → grT (grL M l) (grB M l) = grT [] false := grT_no
  have hyes : GrP M l → grT (grL M l) (grB M l) = grT (mat l.length l.length (vG M l)) true := grT_yes
  generalize grT (grL M l) (grB M l) = r at *
  have cR := pIsReduced_C M
  cases hred : isReducedM M with
  | false =>
    rw [hred] at cR
    rw [hno (fun h => by rw [h.1] at hred; cases hred)]
    refine callC_of Tryz.func17 rfl (by kernel_rfl) ?_; rw [Tryz.ntmps17]
    (refine WpA_sreg [] [] (by simp) fun K hK => ?_; simp (disch := omega) only [kc, prep1, slI, Nat.reduceAdd, List.replicate, ofConst, Value.oneCell']; (with_reducible refine hK _ ?_))
    (refine WpA_seq (WpA_sreg [⟨1, _, _, _, cR⟩] [] (by simp) fun K hK => ?_); simp (disch := omega) only [kc, slI, CItem.a, prep1, Nat.reduceAdd, opS_call, newS, effA, List.find?_cons, evAll, norm, CallRes.plain, rawTV, rawAV, normOk, noRefTV, noRefAV, renTV, renAV, opS_un, effM, evUn, Bool.not_false]; (with_reducible refine hK _ ?_))
    refine WpA_cond rfl (fun _ => ?_) (fun h => by simp at h)
    (refine WpA_sreg [] [] (by simp) fun K hK => ?_; simp (disch := omega) only [kc, prep1, ofConst, Value.oneCell']; (with_reducible refine hK _ ?_))
    refine WpA_ret ⟨.inr rfl, ret_zs 4 rfl rfl ?_ rfl⟩
    simp (disch := omega) only [kc, resA, Tryz.results17, resL, resOne, tvPair, grT, ls_nil]
  | true =>
    rw [hred] at cR
    obtain ⟨n, hn⟩ : ∃ n, n = l.length := ⟨_, rfl⟩
    rw [← hn] at hyes hl
    have hln := hn.symm
    refine callC_of Tryz.func17 rfl (by kernel_rfl) ?_; rw [Tryz.ntmps17]
    (refine WpA_sreg [] [] (by simp) fun K hK => ?_; simp (disch := omega) only [kc, prep1, slI, Nat.reduceAdd, List.replicate, ofConst, Value.oneCell']; (with_reducible refine hK _ ?_))
    (refine WpA_seq (WpA_sreg [⟨1, _, _, _, cR⟩] [] (by simp) fun K hK => ?_); simp (disch := omega) only [kc, slI, CItem.a, prep1, Nat.reduceAdd, opS_call, newS, effA, List.find?_cons, evAll, norm, CallRes.plain, rawTV, rawAV, normOk, noRefTV, noRefAV, renTV, renAV, opS_un, effM, evUn]; (with_reducible refine hK _ ?_))
    refine WpA_cond rfl (fun h => by simp at h) (fun _ => WpA_skip ?_)
    show WpA _ _ _ _
    (refine WpA_seq (WpA_sreg [] [] (by simp) fun K hK => ?_); simp (disch := omega) only [kc, prep1, Nat.reduceAdd, opS_len, effR, ty_slice26, ls_len, hln, ofConst, Value.oneCell']; (with_reducible refine hK _ ?_))
    refine WpA_forb (G := GrG n (fun a => FitB M.length (l.getD a []) = true)) (fun g => ⟨[slI M, slI l, jk, jk, jk, jk, jk, jk, jk, jk, jk, jk, jk, jk, jk, jk, jk, jk, jk, slI l, .raw (.int .i64 (n : Int)), .raw (.int .i64 (g.i : Int)), jk, jk, jk, jk, jk, jk, jk, jk, jk, jk, jk, jk, jk, jk, jk, jk, jk, jk, jk, jk, jk, jk, jk, jk, jk, jk, jk, jk, jk, jk, jk, jk, jk, jk, jk, jk, jk, jk, jk, jk, jk, jk, jk, jk, jk, jk, jk, jk, jk, jk, jk, jk, jk, jk, jk, jk, jk, jk, jk, jk, jk, jk, jk, jk, jk, jk, jk], Hm []⟩) (fun g => n - g.i) ⟨0, by omega, fun a h => by omega⟩ ?_ ?_
    · refine Weak_sub trivial ?_
      simp [wkL, okTV, okAV]
    rintro ⟨i, hi, hg⟩
    simp only
    by_cases hm : i < n
    · have hli := getD_at (l := l) (i := i) (by omega)
      have cF := pFits_C M.length (l.getD i [])
      cases hf : FitB M.length (l.getD i []) with
      | true =>
        rw [hf] at cF
        have hg' : ∀ a, a < i + 1 → FitB M.length (l.getD a []) = true := fun a ha => by
          by_cases h : a = i
          · subst h; exact hf
          · exact hg a (by omega)
        generalize l.getD i [] = xi at *
        (refine WpA_sreg [] [] (by simp) fun K hK => ?_; simp (disch := omega) only [kc, prep1, slI, Hm, effM, evBin, decT]; (with_reducible refine hK _ ?_))
        refine WpA_seq (WpA_cond rfl (fun _ => WpA_skip ?_) (fun h => by simp at h <;> omega))
        refine WpA_seq (WpA_block ?_)
        (refine WpA_sreg [] [] (by simp) fun K hK => ?_; simp (disch := omega) only [kc, prep1, Nat.reduceAdd, opS_indexAddr, effR, natOf_pos, ty_slice26, ls_get, hli, fR, ty_sz29, packT, ty_agg29]; (with_reducible refine hK _ ?_))
        (refine WpA_sreg [⟨3, _, _, _, cF⟩] [] (by simp) fun K hK => ?_; simp (disch := omega) only [kc, sl1, CItem.a, prep1, Nat.reduceAdd, opS_len, effR, ty_slice26, ls_len, opS_call, newS, effA, List.find?_cons, evAll, norm, CallRes.plain, rawTV, rawAV, normOk, noRefTV, noRefAV, renTV, renAV, opS_un, effM, evUn]; (with_reducible refine hK _ ?_))
        refine WpA_cond rfl (fun h => by simp at h) (fun _ => WpA_skip ?_)
        show WpA _ _ _ _
        ((refine WpA_lreg [] [] (by simp) fun K hK => ?_); simp (disch := omega) only [kc, prep1, effM, ofConst, Value.oneCell', evBin, wrapI]; (with_reducible refine hK _ ?_))
        refine ⟨⟨i + 1, by omega, hg'⟩, by simp only; omega, Weak_sub trivial ?_⟩
        simp [wkL, okTV, okAV]
      | false =>
        rw [hf] at cF
        have hr := hno (fun h => by rw [(h.2 i (by omega) i (by omega)).x] at hf; cases hf)
        generalize l.getD i [] = xi at *
        (refine WpA_sreg [] [] (by simp) fun K hK => ?_; simp (disch := omega) only [kc, prep1, slI, Hm, effM, evBin, decT]; (with_reducible refine hK _ ?_))
        refine WpA_seq (WpA_cond rfl (fun _ => WpA_skip ?_) (fun h => by simp at h <;> omega))
        refine WpA_seq (WpA_block ?_)
        (refine WpA_sreg [] [] (by simp) fun K hK => ?_; simp (disch := omega) only [kc, prep1, Nat.reduceAdd, opS_indexAddr, effR, natOf_pos, ty_slice26, ls_get, hli, fR, ty_sz29, packT, ty_agg29]; (with_reducible refine hK _ ?_))
        (refine WpA_sreg [⟨3, _, _, _, cF⟩] [] (by simp) fun K hK => ?_; simp (disch := omega) only [kc, sl1, CItem.a, prep1, Nat.reduceAdd, opS_len, effR, ty_slice26, ls_len, opS_call, newS, effA, List.find?_cons, evAll, norm, CallRes.plain, rawTV, rawAV, normOk, noRefTV, noRefAV, renTV, renAV, opS_un, effM, evUn, Bool.not_false]; (with_reducible refine hK _ ?_))
        refine WpA_cond rfl (fun _ => ?_) (fun h => by simp at h)
        (refine WpA_sreg [] [] (by simp) fun K hK => ?_; simp (disch := omega) only [kc, prep1, ofConst, Value.oneCell']; (with_reducible refine hK _ ?_))
        refine WpA_ret ⟨.inr rfl, ret_zs 4 rfl rfl ?_ (by rw [hr]; rfl)⟩
        rw [hr]
        simp (disch := omega) only [kc, resA, Tryz.results17, resL, resOne, tvPair, grT, ls_nil]
    have hin : i = n := by omega
    subst hin
    (refine WpA_sreg [] [] (by simp) fun K hK => ?_; simp (disch := omega) only [kc, prep1, slI, Hm, effM, evBin, decF]; (with_reducible refine hK _ ?_))
    refine WpA_seq (WpA_cond rfl (fun h => by simp at h <;> omega) (fun _ => WpA_exit ?_))
    show WpA _ _ _ _
    have hfit : ∀ a, a < i → FitB M.length (l.getD a []) = true := hg
    clear hg
    obtain ⟨n, hni⟩ : ∃ n, n = i := ⟨_, rfl⟩
    subst hni
    (refine WpA_sreg [] [] (by simp) fun K hK => ?_; simp (disch := omega) only [kc, prep1, Nat.reduceAdd, opS_len, effR, ty_slice26, ls_len, hln, opS_makeSlice, newS, effA, ty_zero29, ty_sz29, ty_by29, Int.natCast_nonneg, Value.oneCell', and_true, ifT]; (with_reducible refine hK _ ?_))
    (refine WpA_seq (WpA_sreg [] [] (by simp) fun K hK => ?_); simp (disch := omega) only [kc, prep1, Nat.reduceAdd, opS_len, effR, ty_slice26, ls_len, hln, ofConst, Value.oneCell']; (with_reducible refine hK _ ?_))
    refine WpA_forb (G := FiG n) (fun g => ⟨[slI M, slI l, jk, jk, jk, jk, jk, jk, .one (.sl 33 0 0 n), jk, jk, jk, jk, jk, jk, jk, jk, jk, jk, jk, jk, jk, jk, jk, jk, jk, jk, jk, jk, jk, jk, jk, jk, jk, jk, .raw (.int .i64 (n : Int)), .raw (.int .i64 (g.i : Int)), jk, jk, jk, jk, jk, jk, jk, jk, jk, jk, jk, jk, jk, jk, jk, jk, jk, jk, jk, jk, jk, jk, jk, jk, jk, jk, jk, jk, jk, jk, jk, jk, jk, jk, jk, jk, jk, jk, jk, jk, jk, jk, jk, jk, jk, jk, jk, jk, jk, jk, jk, jk], Hm [(33, kI 33 n n g.i (fun _ _ => 0))]⟩) (fun g => n - g.i) ⟨0, by omega⟩ ?_ ?_
    · refine Weak_sub ⟨?_, trivial⟩ ?_
      · show [_] = _
        simp [kI, spn, mat]
      · simp [wkL, okTV, okAV]
    rintro ⟨i, hi⟩
    simp only
    by_cases hm : i < n
    · have k1 := kI_nil (i := i) (n := n) 33 n hm
      have k2 := kI_len (i := i) (n := n) 33 n hi
      have k3 := mat_len i n (fun _ _ => (0 : Int))
      have k4 := kI_make (i := i) (n := n) (c := n) 33 (fun _ _ => (0 : Int)) hm (fun j hj => rfl)
      (refine WpA_sreg [] [] (by simp) fun K hK => ?_; simp (disch := omega) only [kc, prep1, slI, Hm, effM, evBin, decT]; (with_reducible refine hK _ ?_))
      refine WpA_seq (WpA_cond rfl (fun _ => WpA_skip ?_) (fun h => by simp at h <;> omega))
      refine WpA_seq (WpA_block ?_)
      (refine WpA_sreg [] [] (by simp) fun K hK => ?_; simp (disch := omega) only [kc, prep1]; (with_reducible refine hK _ ?_))
      ((refine WpA_lreg [] [] (by simp) fun K hK => ?_); simp (disch := omega) only [kc, prep1, Nat.reduceAdd, opS_len, effR, ty_slice26, ls_len, hln, opS_makeSlice, newS, effA, ty_slice29, ty_zero2, ty_sz2, ty_by2, Int.natCast_nonneg, Value.oneCell', and_true, ifT, Nat.reduceEqDiff, opS_indexAddr, natOf_pos, updH, ty_sz29, opS_store, wrS, effD, k1, putCells, ifF, List.length_replicate, List.all_replicate, isPure, List.length_map, k3, k4, killTV, killAV, Nat.reduceBEq]; (with_reducible refine hK _ ?_))
      show WpA _ _ _ _
      ((refine WpA_lreg [] [] (by simp) fun K hK => ?_); simp (disch := omega) only [kc, prep1, effM, ofConst, Value.oneCell', evBin, wrapI]; (with_reducible refine hK _ ?_))
      refine ⟨⟨i + 1, by omega⟩, by simp only; omega, Weak_sub ⟨?_, trivial⟩ ?_⟩
      · first | exact k4 | rfl
      · simp [wkL, okTV, okAV]
    have hin : i = n := by omega
    subst hin
    (refine WpA_sreg [] [] (by simp) fun K hK => ?_; simp (disch := omega) only [kc, prep1, slI, Hm, effM, evBin, decF]; (with_reducible refine hK _ ?_))
    refine WpA_seq (WpA_cond rfl (fun h => by simp at h <;> omega) (fun _ => WpA_exit ?_))
    show WpA _ _ _ _
    rw [kI_end]
    obtain ⟨n, hni⟩ : ∃ n, n = i := ⟨_, rfl⟩
    subst hni
    (refine WpA_seq (WpA_sreg [] [] (by simp) fun K hK => ?_); simp (disch := omega) only [kc, prep1, Nat.reduceAdd, opS_len, effR, ty_slice26, ls_len, hln, ofConst, Value.oneCell']; (with_reducible refine hK _ ?_))
    refine WpA_forb (G := GrG n (fun a => ∀ b, b ≤ a → PG M l a b)) (fun g => ⟨[slI M, slI l, jk, jk, jk, jk, jk, jk, .one (.sl 33 0 0 n), jk, jk, jk, jk, jk, jk, jk, jk, jk, jk, jk, jk, jk, jk, jk, jk, jk, jk, jk, jk, jk, jk, jk, jk, jk, jk, jk, jk, jk, jk, jk, jk, jk, jk, jk, jk, jk, slI l, .raw (.int .i64 (n : Int)), .raw (.int .i64 (g.i : Int)), jk, jk, jk, jk, jk, jk, jk, jk, jk, jk, jk, jk, jk, jk, jk, jk, jk, jk, jk, jk, jk, jk, jk, jk, jk, jk, jk, jk, jk, jk, jk, jk, jk, jk, jk, jk, jk, jk, jk, jk], Hm [(33, mxI 33 n n (gmP (vG M l) g.i 0))]⟩) (fun g => n - g.i) ⟨0, by omega, fun a h => by omega⟩ ?_ ?_
    · refine Weak_sub ⟨?_, trivial⟩ ?_
      · show _ :: _ = _ :: _
        rw [mxIr_congr fun a b _ _ => (gmP_zero (vG M l) a b).symm]
      · simp [wkL, okTV, okAV]
    rintro ⟨i, hi, hg⟩
    simp only
    by_cases hm : i < n
    · have hli := getD_at (l := l) (i := i) (by omega)
      have cA := pApply_C M (l.getD i []) hred (hfit i hm)
      (refine WpA_sreg [] [] (by simp) fun K hK => ?_; simp (disch := omega) only [kc, prep1, slI, Hm, effM, evBin, decT]; (with_reducible refine hK _ ?_))
      refine WpA_seq (WpA_cond rfl (fun _ => WpA_skip ?_) (fun h => by simp at h <;> omega))
      refine WpA_seq (WpA_block ?_)
      (refine WpA_sreg [] [] (by simp) fun K hK => ?_; simp (disch := omega) only [kc, prep1, Nat.reduceAdd, opS_indexAddr, effR, natOf_pos, ty_slice26, ls_get, hli, fR, ty_sz29, packT, ty_agg29]; (with_reducible refine hK _ ?_))
      (refine WpA_sreg [⟨2, _, _, _, cA⟩] [] (by simp) fun K hK => ?_; simp (disch := omega) only [kc, slI, sl1, CItem.a, prep1, Nat.reduceAdd, opS_call, newS, effA, List.find?_cons, evAll, norm, CallRes.plain, rawTV, rawAV, normOk, noRefTV, noRefAV, renTV, renAV]; (with_reducible refine hK _ ?_))
      (refine WpA_sreg [] [] (by simp) fun K hK => ?_; simp (disch := omega) only [kc, prep1, Nat.reduceAdd, effM, ofConst, Value.oneCell', evBin, wrapI]; (with_reducible refine hK _ ?_))
      refine WpA_forb (G := GrG (i + 1) (fun b => PG M l i b)) (fun g => ⟨[slI M, slI l, jk, jk, jk, jk, jk, jk, .one (.sl 33 0 0 n), jk, .raw (.int .i64 (i : Int)), jk, sl1 (applyM M (l.getD i [])), jk, jk, jk, jk, jk, jk, jk, jk, jk, jk, jk, jk, jk, jk, jk, jk, jk, jk, jk, jk, jk, jk, jk, jk, jk, jk, jk, jk, jk, jk, jk, jk, jk, slI l, .raw (.int .i64 (n : Int)), .raw (.int .i64 (i : Int)), jk, jk, jk, jk, jk, jk, jk, jk, .raw (.int .i64 ((i + 1 : Nat) : Int)), .raw (.int .i64 (g.i : Int)), jk, jk, jk, jk, jk, jk, jk, jk, jk, jk, jk, jk, jk, jk, jk, jk, jk, jk, jk, jk, jk, jk, jk, jk, jk, jk, jk, jk, jk, jk], Hm [(33, mxI 33 n n (gmP (vG M l) i g.i))]⟩) (fun g => i + 1 - g.i) ⟨0, by omega, fun a h => by omega⟩ ?_ ?_
      · refine Weak_sub ⟨rfl, trivial⟩ ?_
        simp [wkL, okTV, okAV]
      rintro ⟨j, hj, hh⟩
      simp only
      by_cases hm2 : j < i + 1
      · have hlj := getD_at (l := l) (i := j) (by omega)
        have cD := pDot_C M (l.getD j []) (l.getD i []) hred (hfit j (by omega)) (hfit i hm)
        have hsy := vG_sym (i := i) (j := j) hred (hfit i hm) (hfit j (by omega))
        rw [show accZ (l.getD j []) (applyM M (l.getD i [])) (l.getD j []).length = vG M l j i from rfl, ← hsy] at cD
        by_cases hp : PG M l i j
        · rw [show wiT (vG M l i j) = tvI (vG M l i j) true from if_pos ⟨hp.lo, hp.hi⟩] at cD
          have g1 := spn_get (n := n) (i := i) 33 n hm
          have g2 := spn_get (n := n) (i := j) 33 n (by omega)
          have g3 := mxIr_get (n := n) n (gmP (vG M l) i j) (i := i) hm
          have g4 := rowF_get (gmP (vG M l) i j i) (show j < n by omega)
          have g5 := mxIr_get (n := n) n (upd (gmP (vG M l) i j) i j (vG M l i j)) (i := j) (show j < n by omega)
          have g6 := rowF_get (upd (gmP (vG M l) i j) i j (vG M l i j) j) hm
          (refine WpA_sreg [] [] (by simp) fun K hK => ?_; simp (disch := omega) only [kc, prep1, slI, sl1, Hm, effM, evBin, decT]; (with_reducible refine hK _ ?_))
          refine WpA_seq (WpA_cond rfl (fun _ => WpA_skip ?_) (fun h => by simp at h <;> omega))
          refine WpA_seq (WpA_block ?_)
          (refine WpA_sreg [] [] (by simp) fun K hK => ?_; simp (disch := omega) only [kc, prep1]; (with_reducible refine hK _ ?_))
          (refine WpA_sreg [⟨5, _, _, _, cD⟩] [] (by simp) fun K hK => ?_; simp (disch := omega) only [kc, sl1, tvI, CItem.a, prep1, Nat.reduceAdd, opS_indexAddr, effR, natOf_pos, ty_slice26, ls_get, hlj, fR, ty_sz29, packT, ty_agg29, opS_call, newS, effA, List.find?_cons, evAll, norm, CallRes.plain, rawTV, rawAV, normOk, noRefTV, noRefAV, renTV, renAV, opS_extract, effM]; (with_reducible refine hK _ ?_))
          (refine WpA_seq (WpA_sreg [] [] (by simp) fun K hK => ?_); simp (disch := omega) only [kc, prep1, opS_un, effM, evUn]; (with_reducible refine hK _ ?_))
          refine WpA_cond rfl (fun h => by simp at h) (fun _ => WpA_skip ?_)
          show WpA _ _ _ _
          ((refine WpA_ldraw mixedA [] [] (by kernel_rfl) (by simp) fun K hK => ?_); simp (disch := omega) only [kc, prep1, Nat.reduceAdd, opS_indexAddr, effR, natOf_pos, ty_slice26, ty_sz29, ifT, g1, packT, ty_agg29, g2, ty_slice29, g3, ty_sz2, opS_store, wrS, effD, lc_get, fI, g4, cellsOf, Nat.le_refl, isPure, putCells, mxIr_set, killTV, killAV, updH, ifF, g5, g6]; (with_reducible refine hK _ ?_))
          show WpA _ _ _ _
          ((refine WpA_lreg [] [] (by simp) fun K hK => ?_); simp (disch := omega) only [kc, prep1, effM, ofConst, Value.oneCell', evBin, wrapI]; (with_reducible refine hK _ ?_))
          refine ⟨⟨j + 1, by omega, fun a ha => ?_⟩, by simp only; omega, Weak_sub ⟨?_, trivial⟩ ?_⟩
          · by_cases h : a = j
            · subst h; exact hp
            · exact hh a (by omega)
          · show _ :: _ = _ :: _
            rw [mxIr_congr fun a b _ _ => gmP_step (f := vG M l) rfl hsy.symm a b]
          · simp [wkL, okTV, okAV]
        · have hw : wiT (vG M l i j) = tvI 0 false := if_neg fun h => hp ⟨hfit i hm, hfit j (by omega), h.1, h.2⟩
          rw [hw] at cD
          have hr := hno (fun h => hp (h.2 i (by omega) j (by omega)))
          (refine WpA_sreg [] [] (by simp) fun K hK => ?_; simp (disch := omega) only [kc, prep1, slI, sl1, Hm, effM, evBin, decT]; (with_reducible refine hK _ ?_))
          refine WpA_seq (WpA_cond rfl (fun _ => WpA_skip ?_) (fun h => by simp at h <;> omega))
          refine WpA_seq (WpA_block ?_)
          (refine WpA_sreg [] [] (by simp) fun K hK => ?_; simp (disch := omega) only [kc, prep1]; (with_reducible refine hK _ ?_))
          (refine WpA_sreg [⟨5, _, _, _, cD⟩] [] (by simp) fun K hK => ?_; simp (disch := omega) only [kc, sl1, tvI, CItem.a, prep1, Nat.reduceAdd, opS_indexAddr, effR, natOf_pos, ty_slice26, ls_get, hlj, fR, ty_sz29, packT, ty_agg29, opS_call, newS, effA, List.find?_cons, evAll, norm, CallRes.plain, rawTV, rawAV, normOk, noRefTV, noRefAV, renTV, renAV, opS_extract, effM]; (with_reducible refine hK _ ?_))
          (refine WpA_seq (WpA_sreg [] [] (by simp) fun K hK => ?_); simp (disch := omega) only [kc, prep1, opS_un, effM, evUn, Bool.not_false]; (with_reducible refine hK _ ?_))
          refine WpA_cond rfl (fun _ => ?_) (fun h => by simp at h)
          (refine WpA_sreg [] [] (by simp) fun K hK => ?_; simp (disch := omega) only [kc, prep1, ofConst, Value.oneCell']; (with_reducible refine hK _ ?_))
          refine WpA_ret ⟨.inr rfl, ret_zs 4 rfl rfl ?_ (by rw [hr]; rfl)⟩
          rw [hr]
          simp (disch := omega) only [kc, resA, Tryz.results17, resL, resOne, tvPair, grT, ls_nil]
      · have hjc : j = i + 1 := by omega
        subst hjc
        (refine WpA_sreg [] [] (by simp) fun K hK => ?_; simp (disch := omega) only [kc, prep1, slI, sl1, Hm, effM, evBin, decF]; (with_reducible refine hK _ ?_))
        refine WpA_seq (WpA_cond rfl (fun h => by simp at h <;> omega) (fun _ => WpA_exit ?_))
        show WpA _ _ _ _
        ((refine WpA_lreg [] [] (by simp) fun K hK => ?_); simp (disch := omega) only [kc, prep1, effM, ofConst, Value.oneCell', evBin, wrapI]; (with_reducible refine hK _ ?_))
        refine ⟨⟨i + 1, by omega, fun a ha b hb => ?_⟩, by simp only; omega, Weak_sub ⟨?_, trivial⟩ ?_⟩
        · by_cases h : a = i
          · subst h; exact hh b (by omega)
          · exact hg a (by omega) b hb
        · show _ :: _ = _ :: _
          rw [mxIr_congr fun a b _ _ => gmP_row (vG M l) i a b]
        · simp [wkL, okTV, okAV]
    · have hin : i = n := by omega
      subst hin
      have hr := hyes ⟨hred, fun a ha b hb => by
        by_cases h : b ≤ a
        · exact hg a (by omega) b h
        · have h1 := hg b (by omega) a (by omega)
          have hs := vG_sym (i := a) (j := b) hred (hfit a (by omega)) (hfit b (by omega))
          exact ⟨h1.y, h1.x, by rw [hs]; exact h1.lo, by rw [hs]; exact h1.hi⟩⟩
      (refine WpA_sreg [] [] (by simp) fun K hK => ?_; simp (disch := omega) only [kc, prep1, slI, Hm, effM, evBin, decF]; (with_reducible refine hK _ ?_))
      refine WpA_seq (WpA_cond rfl (fun h => by simp at h <;> omega) (fun _ => WpA_exit ?_))
      show WpA _ _ _ _
      have e : mxI 33 i i (gmP (vG M l) i 0) = mxI 33 i i (vG M l) := by
        show _ :: _ = _ :: _
        rw [mxIr_congr fun a b ha hb => gmP_end ha hb]
      rw [e]
      refine WpA.weak ((Weak_fz 33 (fzOk_mxI (d := 33) (n := i) (c := i) (f := vG M l) rfl)).trans (Weak_sub (tm := [jk, jk, jk, jk, jk, jk, jk, jk, slI (mat i i (vG M l)), jk, jk, jk, jk, jk, jk, jk, jk, jk, jk, jk, jk, jk, jk, jk, jk, jk, jk, jk, jk, jk, jk, jk, jk, jk, jk, jk, jk, jk, jk, jk, jk, jk, jk, jk, jk, jk, jk, jk, jk, jk, jk, jk, jk, jk, jk, jk, jk, jk, jk, jk, jk, jk, jk, jk, jk, jk, jk, jk, jk, jk, jk, jk, jk, jk, jk, jk, jk, jk, jk, jk, jk, jk, jk, jk, jk, jk, jk, jk, jk]) (l := []) trivial (by simp [wkL, okTV, okAV]; exact (fzMI (H := Hm [(33, mxI 33 i i (vG M l))]) (d := 33) (n := i) (c := i) (f := vG M l) rfl).symm))) ?_
      rw [hr]
      (refine WpA_sreg [] [] (by simp) fun K hK => ?_; simp (disch := omega) only [kc, prep1, Nat.reduceAdd, slI, Hm, ofConst, Value.oneCell']; (with_reducible refine hK _ ?_))
      (refine WpA_ret ⟨.inr rfl, ret_now rfl ?_ rfl⟩; simp (disch := omega) only [resA, Tryz.results17, resL, resOne, List.getElem?_cons_succ, List.getElem?_cons_zero, Option.bind_some, tvPair, Option.map_some, grT])
end Go.Proofs.YtobnpabndpmabaaGreat
namespace Go.Proofs.YtobnpabndpmabaaGreat
open Go.RowKit
set_option maxRecDepth 100000 in
set_option maxHeartbeats 16000000 in
theorem lawGrams_C (dim kind : Nat) (L B : List Int) (KL h l : List (List Int)) (hL : I8 L) (hdim : dim ≤ 255) (hkind : kind ≤ 255) (hKL : ∀ c ∈ KL, I8 c) (hh : MI h) (lK : KL.length ≤ 9223372036854775807) (ll : l.length ≤ 9223372036854775807) :
    CallC Tryz.prog 5 [tL dim kind L B, sl8M KL, slI h, slI l] ⟨[], .raw (.bool true)⟩ := by
  have c5 := awake_C
  by_cases h1 : 8 < KL.length
  · refine callC_of Tryz.func5 rfl (by kernel_rfl) ?_; rw [Tryz.ntmps5]
    (refine WpA_sreg [] [] (by simp) fun K hK => ?_; simp (disch := omega) only [kc, prep1, tL, sl8M, slI, Nat.reduceAdd, List.replicate, opS_box, newS, effA, cellsOf, isPure, ifT, ofConst, Value.oneCell']; (with_reducible refine hK _ ?_))
    (refine WpA_seq (WpA_sreg [] [] (by simp) fun K hK => ?_); simp (disch := omega) only [kc, prep1, Nat.reduceAdd, opS_len, effR, ty_slice25, ls_len, effM, ofConst, Value.oneCell', evBin, decT, stS_guard, reduceCtorEq, ty_slice26, Option.map_none, opS_pick]; (with_reducible refine hK _ ?_))
    refine WpA_cond rfl (fun _ => ?_) (fun h => by simp at h <;> omega)
    (refine WpA_sreg [⟨0, _, _, _, c5⟩] [] (by simp) fun K hK => ?_; simp (disch := omega) only [kc, CItem.a, prep1, opS_call, newS, effA, List.find?_cons, evAll, CallRes.plain, rawTV, rawAV, noRefTV, noRefAV, renTV, renAV]; (with_reducible refine hK _ ?_))
    (refine WpA_ret ⟨.inr rfl, ret_now rfl ?_ rfl⟩; simp (disch := omega) only [resA, Tryz.results5, resOne, List.getElem?_cons_succ, List.getElem?_cons_zero])
  by_cases h2 : 8 < l.length
  · refine callC_of Tryz.func5 rfl (by kernel_rfl) ?_; rw [Tryz.ntmps5]
    (refine WpA_sreg [] [] (by simp) fun K hK => ?_; simp (disch := omega) only [kc, prep1, tL, sl8M, slI, Nat.reduceAdd, List.replicate, opS_box, newS, effA, cellsOf, isPure, ifT, ofConst, Value.oneCell']; (with_reducible refine hK _ ?_))
    (refine WpA_seq (WpA_sreg [] [] (by simp) fun K hK => ?_); simp (disch := omega) only [kc, prep1, Nat.reduceAdd, opS_len, effR, ty_slice25, ls_len, effM, ofConst, Value.oneCell', evBin, decF, stS_guard, ty_slice26, ifT, decT, opS_pick]; (with_reducible refine hK _ ?_))
    refine WpA_cond rfl (fun _ => ?_) (fun h => by simp at h <;> omega)
    (refine WpA_sreg [⟨0, _, _, _, c5⟩] [] (by simp) fun K hK => ?_; simp (disch := omega) only [kc, CItem.a, prep1, opS_call, newS, effA, List.find?_cons, evAll, CallRes.plain, rawTV, rawAV, noRefTV, noRefAV, renTV, renAV]; (with_reducible refine hK _ ?_))
    (refine WpA_ret ⟨.inr rfl, ret_now rfl ?_ rfl⟩; simp (disch := omega) only [resA, Tryz.results5, resOne, List.getElem?_cons_succ, List.getElem?_cons_zero])
  obtain ⟨n, hn⟩ : ∃ n, n = 1 + dim % 4 := ⟨_, rfl⟩
  obtain ⟨f, hr, cF⟩ := Form_C dim kind L B 4 n hL hdim hkind (by omega) (by omega) hn
  rw [show ((4 : Nat) : Int) = 4 from rfl] at cF
  have hM := MI_red (by omega) (by omega) hr
  have hml := mat_len n n f
  generalize mat n n f = M at *
  obtain ⟨k, hk⟩ : ∃ k, k = KL.length := ⟨_, rfl⟩
  have hkl := hk.symm
  have g1 := pGram_C M (vcL n KL k) (by rw [vcL_len n KL (by omega)]; omega)
  have g2 := rGram_C M (vcL n KL k) hM (by rw [vcL_len n KL (by omega)]; omega)
  have g3 := pGram_C h l (by omega)
  have g4 := rGram_C h l hh (by omega)
  have s1 := same_C (grL M (vcL n KL k)) (grL M (vcL n KL k))
  have s2 := same_C (grL h l) (grL h l)
  rw [decide_eq_true rfl] at s1 s2
  refine callC_of Tryz.func5 rfl (by kernel_rfl) ?_; rw [Tryz.ntmps5]
  (refine WpA_sreg [] [] (by simp) fun K hK => ?_; simp (disch := omega) only [kc, prep1, tL, sl8M, slI, Nat.reduceAdd, List.replicate, opS_box, newS, effA, cellsOf, isPure, ifT, ofConst, Value.oneCell']; (with_reducible refine hK _ ?_))
  (refine WpA_seq (WpA_sreg [] [] (by simp) fun K hK => ?_); simp (disch := omega) only [kc, prep1, Nat.reduceAdd, opS_len, effR, ty_slice25, ls_len, effM, ofConst, Value.oneCell', evBin, decF, stS_guard, ty_slice26, ifT, opS_pick]; (with_reducible refine hK _ ?_))
  refine WpA_cond rfl (fun h => by simp at h <;> omega) (fun _ => WpA_skip ?_)
  show WpA _ _ _ _
  (refine WpA_sreg [⟨1, _, _, _, cF⟩] [] (by simp) fun K hK => ?_; simp (disch := omega) only [kc, tL, slI, CItem.a, prep1, Nat.reduceAdd, effR, updH, packT, ty_sz24, ty_agg24, Nat.le_refl, opS_call, newS, effA, List.find?_cons, evAll, ofConst, Value.oneCell', norm, CallRes.plain, rawTV, rawAV, normOk, isPure, noRefTV, noRefAV, renTV, renAV]; (with_reducible refine hK _ ?_))
  (refine WpA_sreg [] [] (by simp) fun K hK => ?_; simp (disch := omega) only [kc, prep1, ofConst, Value.oneCell']; (with_reducible refine hK _ ?_))
  (refine WpA_seq (WpA_sreg [] [] (by simp) fun K hK => ?_); simp (disch := omega) only [kc, prep1, Nat.reduceAdd, hkl, opS_len, effR, ty_slice25, ls_len, ofConst, Value.oneCell']; (with_reducible refine hK _ ?_))
  refine WpA_forb (G := FiG k) (fun g => ⟨[jk, jk, slI h, slI l, jk, jk, jk, jk, jk, slI M, .one (.sl 44 0 0 g.i), jk, jk, jk, jk, jk, jk, jk, jk, jk, jk, jk, jk, jk, jk, jk, jk, jk, jk, jk, jk, jk, sl8M KL, .raw (.int .i64 (k : Int)), .raw (.int .i64 (g.i : Int)), jk, jk, jk, jk, jk, jk, jk, jk, jk, jk, jk, jk, jk, jk, jk, jk, jk, jk, jk, jk, jk, jk, jk, jk, jk, jk, jk, jk, jk, jk, jk, jk, jk, jk, jk, jk, jk, jk, jk, jk, jk, jk, jk, jk, jk, jk, jk, jk, jk, jk, jk, jk, jk, jk, jk, jk], Hm [(44, [⟨29, 1, lc (fR fI) (vcL n KL g.i)⟩])]⟩) (fun g => k - g.i) ⟨0, by omega⟩ ?_ ?_
  · refine (Weak_nil (k := 10) (d := 44) 29 1 (by omega) rfl rfl).trans (Weak_sub ⟨rfl, trivial⟩ ?_)
    simp [wkL, okTV, okAV]
  · rintro ⟨i, hi⟩
    simp only
    by_cases hm : i < k
    · obtain ⟨c, hc⟩ := getElem?_of_lt (show i < KL.length by omega)
      have cV := Vector_C c n (hKL c (List.mem_of_getElem? hc)) (by omega)
      have hvl := vcL_len n KL (show i ≤ KL.length by omega)
      (refine WpA_sreg [] [] (by simp) fun K hK => ?_; simp (disch := omega) only [kc, prep1, slI, sl8M, Hm, effM, evBin, decT]; (with_reducible refine hK _ ?_))
      refine WpA_seq (WpA_cond rfl (fun _ => WpA_skip ?_) (fun h => by simp at h <;> omega))
      refine WpA_seq (WpA_block ?_)
      (refine WpA_sreg [] [] (by simp) fun K hK => ?_; simp (disch := omega) only [kc, prep1, Nat.reduceAdd, opS_indexAddr, effR, natOf_pos, ty_slice25, ls_get, hc, fR, ty_sz22, packT, ty_agg22]; (with_reducible refine hK _ ?_))
      (refine WpA_wlreg 5 [⟨4, _, _, _, cV⟩] [] (by simp) (by decide) fun K hK => ?_; simp (disch := omega) only [kc, sl8, CItem.a, prep1, Nat.reduceAdd, opS_len, effR, ty_slice26, ls_len, hml, opS_call, newS, effA, List.find?_cons, evAll, norm, CallRes.plain, List.isEmpty_cons, rawTV, rawAV, normOk, Bool.not_false, noRefTV, noRefAV, Bool.or_false, renTV, renAV, renO, lc_ren, Nat.reduceEqDiff]; (with_reducible refine hK _ ?_))
      refine ⟨⟨[jk, jk, slI h, slI l, jk, jk, jk, jk, jk, slI M, jk, jk, jk, jk, jk, jk, jk, jk, jk, jk, jk, jk, jk, jk, jk, jk, jk, jk, jk, jk, jk, jk, sl8M KL, .raw (.int .i64 (k : Int)), .raw (.int .i64 (i : Int)), jk, jk, jk, .one (.sl 44 0 0 i), jk, jk, jk, sl1 (rowF n (vcF c)), jk, jk, jk, jk, jk, jk, jk, jk, jk, jk, jk, jk, jk, jk, jk, jk, jk, jk, jk, jk, jk, jk, jk, jk, jk, jk, jk, jk, jk, jk, jk, jk, jk, jk, jk, jk, jk, jk, jk, jk, jk, jk, jk, jk, jk, jk, jk, jk], Hm [(44, [⟨29, 1, lc (fR fI) (vcL n KL i)⟩])]⟩, (Weak_fz 42 (fzOk_one rfl)).trans (Weak_sub ⟨rfl, trivial⟩ ?_), by simp, ?_⟩
      · simp [wkL, okTV, okAV, fzTV, fzAV, updH, Hm, lc_take, lc_cellF, List.take_of_length_le, rowF_len]
      · (intro K hK; simp (disch := omega) only [kc, sl8, CItem.a, prep1, Nat.reduceAdd, slI, sl8M, sl1, Hm, opS_buildSlice, newS, effA, ty_slice26, ty_zero29, ty_sz29, litA, cellsOf, isPure, Nat.reduceMul, Nat.reduceLeDiff, List.contains_nil, unP, ifT, opS_append, appS, effD, newsOf, ty_by29, lc_allp, lc_len, hvl, allcons, allnil, and_true, killO, lc_kill, lcIR_snoc, vcL_snoc hc, wrS, killTV, killAV]; (with_reducible refine hK _ ?_))
        show WpA _ _ _ _
        ((refine WpA_lreg [] [] (by simp) fun K hK => ?_); simp (disch := omega) only [kc, prep1, effM, ofConst, Value.oneCell', evBin, wrapI]; (with_reducible refine hK _ ?_))
        refine ⟨⟨i + 1, by omega⟩, by simp only; omega, Weak_sub ⟨?_, trivial⟩ ?_⟩
        · rfl
        · simp [wkL, okTV, okAV]
    · have hin : i = k := by omega
      subst hin
      have hvl := vcL_len n KL (show i ≤ KL.length by omega)
      (refine WpA_sreg [] [] (by simp) fun K hK => ?_; simp (disch := omega) only [kc, prep1, slI, sl8M, Hm, effM, evBin, decF]; (with_reducible refine hK _ ?_))
      refine WpA_seq (WpA_cond rfl (fun h => by simp at h <;> omega) (fun _ => WpA_exit ?_))
      show WpA _ _ _ _
      refine WpA.weak ((Weak_fz 44 (fzOk_one rfl)).trans (Weak_sub (tm := [jk, jk, slI h, slI l, jk, jk, jk, jk, jk, slI M, slI (vcL n KL i), jk, jk, jk, jk, jk, jk, jk, jk, jk, jk, jk, jk, jk, jk, jk, jk, jk, jk, jk, jk, jk, jk, jk, jk, jk, jk, jk, jk, jk, jk, jk, jk, jk, jk, jk, jk, jk, jk, jk, jk, jk, jk, jk, jk, jk, jk, jk, jk, jk, jk, jk, jk, jk, jk, jk, jk, jk, jk, jk, jk, jk, jk, jk, jk, jk, jk, jk, jk, jk, jk, jk, jk, jk, jk, jk, jk, jk, jk, jk, jk]) (l := []) trivial (by simp [wkL, okTV, okAV, fzTV, fzAV, updH, Hm, lc_take, lc_cellF, List.take_of_length_le, hvl]))) ?_
      generalize vcL n KL i = V at *
      generalize grL M V = G1 at *
      generalize grB M V = b1 at *
      generalize grL h l = G2 at *
      generalize grB h l = b2 at *
      (refine WpA_sreg [⟨2, _, _, _, g1⟩] [] (by simp) fun K hK => ?_; simp (disch := omega) only [kc, slI, grT, CItem.a, prep1, Nat.reduceAdd, Hm, opS_call, newS, effA, List.find?_cons, evAll, norm, CallRes.plain, rawTV, rawAV, normOk, noRefTV, noRefAV, renTV, renAV, opS_extract, effM]; (with_reducible refine hK _ ?_))
      (refine WpA_sreg [⟨2, _, _, _, g2⟩] [] (by simp) fun K hK => ?_; simp (disch := omega) only [kc, slI, grT, CItem.a, prep1, Nat.reduceAdd, opS_call, newS, effA, List.find?_cons, evAll, norm, CallRes.plain, rawTV, rawAV, normOk, noRefTV, noRefAV, renTV, renAV, opS_extract, effM]; (with_reducible refine hK _ ?_))
      (refine WpA_sreg [⟨2, _, _, _, g3⟩] [] (by simp) fun K hK => ?_; simp (disch := omega) only [kc, slI, grT, CItem.a, prep1, Nat.reduceAdd, opS_call, newS, effA, List.find?_cons, evAll, norm, CallRes.plain, rawTV, rawAV, normOk, noRefTV, noRefAV, renTV, renAV, opS_extract, effM]; (with_reducible refine hK _ ?_))
      (refine WpA_sreg [⟨2, _, _, _, g4⟩] [] (by simp) fun K hK => ?_; simp (disch := omega) only [kc, slI, grT, CItem.a, prep1, Nat.reduceAdd, opS_call, newS, effA, List.find?_cons, evAll, norm, CallRes.plain, rawTV, rawAV, normOk, noRefTV, noRefAV, renTV, renAV, opS_extract, effM]; (with_reducible refine hK _ ?_))
      (refine WpA_sreg [⟨6, _, _, _, s1⟩, ⟨16, _, _, _, s2⟩, ⟨19, _, _, _, c5⟩] [] (by simp) fun K hK => ?_; simp (disch := omega) only [kc, slI, CItem.a, prep1, Nat.reduceAdd, effM, evBin, ty_bool4, stS_guard, opS_call, newS, effA, List.find?_cons, evAll, norm, CallRes.plain, rawTV, rawAV, normOk, noRefTV, noRefAV, renTV, renAV, ifT, opS_pick, Nat.reduceBEq]; (with_reducible refine hK _ ?_))
      (refine WpA_ret ⟨.inr rfl, ret_now rfl ?_ rfl⟩; simp (disch := omega) only [resA, Tryz.results5, resOne, List.getElem?_cons_succ, List.getElem?_cons_zero])
end Go.Proofs.YtobnpabndpmabaaGreat
namespace Go.Proofs.YtobnpabndpmabaaGreat
open Go.ChangeShapes Go.WideShapes Go.ChangeAt Go.RowKit
set_option maxRecDepth 100000 in
theorem vectorGrams_lifted (os : Os) (started : os.Started) (H : Type) (enc : TypeId × Value → H) :
    ReturnsInHanded {} Tryz.checked os 5 .any (Rows.vectorGramsSpec.pre6 enc Tryz.prog Tryz.f5 Rows.vectorGramsRow.domain false) (Rows.vectorGramsSpec.post enc Tryz.prog Tryz.f5 false true false false) := by
  refine returnsInHanded_of_change_sized (C := Tryz.checked) Tryz.ownKnob_ started (by kernel_rfl) Tryz.func5
    (ChangeSpec.witness6 (enc := enc) (C := Tryz.checked) false ⟨#[], #[.agg #[.int .u8 0, .int .u8 0, .slice none 0 0, .slice none 0 0], .slice none 0 0, .slice none 0 0, .slice none 0 0], []⟩ 8 (by kernel_rfl) (by kernel_rfl) (by kernel_rfl) (by kernel_rfl)) ?_
  intro W base args ds gs before hval0 hW hcnd hsz0 _
  have hval : ∀ (j : Nat) t v, Tryz.f5.params[j]? = some t → args[j]? = some v → Value.okWide Tryz.prog W .any base t v := hval0
  have hsz : (DataW.weightsEach Tryz.prog (Tryz.f5.params.toList ++ Rows.vectorGramsSpec.plain.varTypes Tryz.prog) (ds ++ gs)).all (· ≤ reachBytes) = true := hsz0
  have hW' := hW
  obtain ⟨p, q, hA0, hV, rfl, hfz, hnd⟩ := hW
  have hA : DataW.TrodAll enc Tryz.prog W 0 (fun _ => true) true Tryz.f5.params.toList args.toList ds p := hA0
  rw [Tryz.params5] at hA hval hsz
  obtain ⟨v0, vs0, d0, ds0, p0, q0, hargs, rfl, rfl, h0, r0⟩ := trodAll_cons hA
  obtain ⟨v1, vs1, d1, ds1, p1, q1, rfl, rfl, rfl, h1, r1⟩ := trodAll_cons r0
  obtain ⟨v2, vs2, d2, ds2, p2, q2, rfl, rfl, rfl, h2, r2⟩ := trodAll_cons r1
  obtain ⟨v3, vs3, d3, ds3, p3, q3, rfl, rfl, rfl, h3, r3⟩ := trodAll_cons r2
  obtain ⟨rfl, rfl, rfl⟩ := trodAll_nil r3
  obtain rfl : args = #[v0, v1, v2, v3] := by cases args; simp_all
  obtain ⟨rfl, rfl⟩ := trodVars_none hV
  have k0 := h0
  have lt0 : ∀ x ∈ p0, x.block < W.heap.size := by obtain ⟨m, hm⟩ := k0; exact DataW.trod_lt m _ _ _ hm
  obtain ⟨u00, u01, u02, u03, y00, y01, y02, y03, n0, rfl, rfl, rfl, q00, q01, q02, q03⟩ := Go.Joins.open_agg4 Tryz.underlying24 (by kernel_rfl) (by kernel_rfl) (hval 0 24 v0 rfl rfl) h0
  obtain ⟨dim0, rfl, hd0⟩ := open_cellU Tryz.underlying5 q00
  obtain ⟨kind0, rfl, hk0⟩ := open_cellU Tryz.underlying5 q01
  obtain ⟨L0, rL0, hL0⟩ := open_cell8 Tryz.underlying22 Tryz.underlying98 (by kernel_rfl) q02
  obtain ⟨B0, rB0, hB0⟩ := open_cell8 Tryz.underlying22 Tryz.underlying98 (by kernel_rfl) q03
  obtain ⟨a1, len1, cap1, rfl⟩ := okWide_slice Tryz.underlying25 (hval 1 25 v1 rfl rfl)
  have k1 := h1
  have lt1 : ∀ x ∈ p1, x.block < W.heap.size := by obtain ⟨m, hm⟩ := k1; exact DataW.trod_lt m _ _ _ hm
  obtain ⟨z1, rfl, g11, g12, g13, g14⟩ := open_rdM Tryz.underlying25 Tryz.underlying22 Tryz.underlying98 (by kernel_rfl) (by kernel_rfl) h1
  obtain ⟨a2, len2, cap2, rfl⟩ := okWide_slice Tryz.underlying26 (hval 2 26 v2 rfl rfl)
  have k2 := h2
  have lt2 : ∀ x ∈ p2, x.block < W.heap.size := by obtain ⟨m, hm⟩ := k2; exact DataW.trod_lt m _ _ _ hm
  obtain ⟨z2, rfl, g21, g22, g23, g24⟩ := open_rdM Tryz.underlying26 Tryz.underlying29 Tryz.underlying2 (by kernel_rfl) (by kernel_rfl) h2
  obtain ⟨a3, len3, cap3, rfl⟩ := okWide_slice Tryz.underlying26 (hval 3 26 v3 rfl rfl)
  have k3 := h3
  have lt3 : ∀ x ∈ p3, x.block < W.heap.size := by obtain ⟨m, hm⟩ := k3; exact DataW.trod_lt m _ _ _ hm
  obtain ⟨z3, rfl, g31, g32, g33, g34⟩ := open_rdM Tryz.underlying26 Tryz.underlying29 Tryz.underlying2 (by kernel_rfl) (by kernel_rfl) h3
  clear hA0 hval0 hsz0
  refine ((lawGrams_C dim0 kind0 L0 B0 z1 z2 z3 hL0 hd0 hk0 (fun r hr z hz => wf_i8_bd (g14 r hr z hz)) (fun r hr z hz => wf_i64_bd (g24 r hr z hz)) (by unfold maxLen at g12; omega) (by unfold maxLen at g32; omega)).law (vs := #[.agg #[.int .u8 (dim0 : Int), .int .u8 (kind0 : Int), u02, u03], .slice a1 z1.length cap1, .slice a2 z2.length cap2, .slice a3 z3.length cap3]) rfl (argsT (vs := [.agg #[.int .u8 (dim0 : Int), .int .u8 (kind0 : Int), u02, u03], .slice a1 z1.length cap1, .slice a2 z2.length cap2, .slice a3 z3.length cap3]) rfl (fun j t v ht hv => by
    match j, ht, hv with
    | 0, ht, hv => simp at ht hv; subst ht; subst hv; exact rel_L rL0 rB0
    | 1, ht, hv => simp at ht hv; subst ht; subst hv; exact rdM8_rep g11 (by unfold maxLen at g12; omega) g13
    | 2, ht, hv => simp at ht hv; subst ht; subst hv; exact rdM_rep g21 (by unfold maxLen at g22; omega) g23
    | 3, ht, hv => simp at ht hv; subst ht; subst hv; exact rdM_rep g31 (by unfold maxLen at g32; omega) g33
    | j + 4, ht, hv => simp at ht))).mono fun e W' ⟨he, bel0⟩ => ?_
  have bel : Below W.heap.size W W' := bel0
  subst he
  exact ⟨_, rfl, _, _, _, [], _, [], hW', trodAll_mk1 (shut_bool Tryz.underlying4 _), (trodAll_cons_mk (Below.trod Tryz.laidOut_ (by kernel_rfl) (of_decide_eq_true (by kernel_rfl)) k0 bel lt0) (trodAll_cons_mk (Below.trod Tryz.laidOut_ (by kernel_rfl) (of_decide_eq_true (by kernel_rfl)) k1 bel lt1) (trodAll_cons_mk (Below.trod Tryz.laidOut_ (by kernel_rfl) (of_decide_eq_true (by kernel_rfl)) k2 bel lt2) (trodAll_cons_mk (Below.trod Tryz.laidOut_ (by kernel_rfl) (of_decide_eq_true (by kernel_rfl)) k3 bel lt3) trodAll_mk0)))), rfl, bel.frame _, fun h => by cases h⟩
theorem vectorGrams_holds : Rows.VectorGramsSaid :=
  OpenClaim.holds_of_wide 5 Tryz.f5 rfl rfl rfl rfl rfl rfl rfl ⟨rfl, rfl, rfl, rfl, rfl⟩ rfl rfl rfl rfl rfl (by kernel_rfl) Tryz.func5 (by kernel_rfl)
    (of_decide_eq_true (by kernel_rfl)) (by unfold Func.isWrapper; first | (rw [if_pos (by decide +kernel)]; kernel_rfl) | (rw [if_neg (by decide +kernel)]; exact ⟨rfl, rfl⟩))
    (fun os started H enc _ => vectorGrams_lifted os started H enc)
#print axioms vectorGrams_holds
end Go.Proofs.YtobnpabndpmabaaGreat
