/-
  Part 8 of a proof (walks and plain facts).
-/
import Derived.Test.YtennjcjjegbhgaaGreatP06
set_option linter.all false
namespace Go.Proofs.YtennjcjjegbhgaaGreat
open Go.RowKit
def sumL : List Nat → List Nat → Nat → List Nat
  | [], [], c => [c]
  | a :: m, [], c => (c + a) % 4294967296 :: sumL m [] ((c + a) / 4294967296)
  | [], b :: n, c => (c + b) % 4294967296 :: sumL [] n ((c + b) / 4294967296)
  | a :: m, b :: n, c => (c + a + b) % 4294967296 :: sumL m n ((c + a + b) / 4294967296)
theorem natV_sumL : ∀ (m n : List Nat) (c : Nat), natV (sumL m n c) = natV m + natV n + c
  | [], [], c => by simp [sumL, natV]
  | a :: m, [], c => by simp only [sumL, natV, natV_sumL m []]; omega
  | [], b :: n, c => by simp only [sumL, natV, natV_sumL [] n]; omega
  | a :: m, b :: n, c => by simp only [sumL, natV, natV_sumL m n]; omega
theorem lmb_cons {a : Nat} {l : List Nat} : Lmb (a :: l) ↔ a < 4294967296 ∧ Lmb l := by simp [Lmb]
theorem lmb_sumL : ∀ (m n : List Nat) (c : Nat), Lmb m → Lmb n → c ≤ 1 → Lmb (sumL m n c)
  | [], [], c, _, _, hc => by simp [sumL, Lmb]; omega
  | a :: m, [], c, hm, hn, hc => by
    rw [lmb_cons] at hm
    rw [sumL, lmb_cons]
    exact ⟨Nat.mod_lt _ (by omega), lmb_sumL m [] _ hm.2 hn (by omega)⟩
  | [], b :: n, c, hm, hn, hc => by
    rw [lmb_cons] at hn
    rw [sumL, lmb_cons]
    exact ⟨Nat.mod_lt _ (by omega), lmb_sumL [] n _ hm hn.2 (by omega)⟩
  | a :: m, b :: n, c, hm, hn, hc => by
    rw [lmb_cons] at hm hn
    rw [sumL, lmb_cons]
    exact ⟨Nat.mod_lt _ (by omega), lmb_sumL m n _ hm.2 hn.2 (by omega)⟩
theorem sumL_len : ∀ (m n : List Nat) (c : Nat), (sumL m n c).length = max m.length n.length + 1
  | [], [], c => by simp [sumL]
  | a :: m, [], c => by simp [sumL, sumL_len m []]
  | [], b :: n, c => by simp [sumL, sumL_len [] n]
  | a :: m, b :: n, c => by simp [sumL, sumL_len m n]
theorem drop_at {l : List Nat} {i a : Nat} (h : l[i]? = some a) : l.drop i = a :: l.drop (i + 1) := by
  obtain ⟨h1, rfl⟩ := List.getElem?_eq_some_iff.1 h
  exact List.drop_eq_getElem_cons h1
theorem drop_out {l : List Nat} {i : Nat} (h : l.length ≤ i) : l.drop i = [] := List.drop_eq_nil_iff.2 h
theorem lmb_at {l : List Nat} {i a : Nat} (hl : Lmb l) (h : l[i]? = some a) : a < 4294967296 := hl a (List.mem_of_getElem? h)
theorem w32 (x : Nat) : IntKind.u32.wrap (x : Int) = ((x % 4294967296 : Nat) : Int) := by rw [IntKind.wrap_u32]; omega
theorem s32 (x : Nat) : (x : Int).fdiv (2 ^ (min 32 IntKind.u64.bits)) = ((x / 4294967296 : Nat) : Int) := by
  show Int.fdiv (x : Int) 4294967296 = _
  rw [Int.fdiv_eq_ediv_of_nonneg _ (by omega)]; omega
structure SumG (m n : List Nat) where
  i : Nat
  o : List Nat
  c : Nat
  hi : i ≤ max m.length n.length
  hc : c ≤ 1
  ho : o.length = i
  h : o ++ sumL (m.drop i) (n.drop i) c = sumL m n 0
set_option maxRecDepth 100000 in
set_option maxHeartbeats 2000000 in
theorem sum_C (m n : List Nat) (lm : Lmb m) (ln : Lmb n) (bm : m.length ≤ 1073741824) (bn : n.length ≤ 1073741824) :
    CallC Tryz.prog 153 [slU m, slU n] ⟨[], slU (sumL m n 0)⟩ := by
  refine callC_of Tryz.func153 rfl (by kernel_rfl) ?_; rw [Tryz.ntmps153]
  (refine WpA_sreg [] [] (by simp) fun K hK => ?_; simp (disch := omega) only [kc, prep1, slU, Nat.reduceAdd, List.replicate, ofConst, Value.oneCell']; (with_reducible refine hK _ ?_))
  (refine WpA_sreg [] [] (by simp) fun K hK => ?_; simp (disch := omega) only [kc, prep1, ofConst, Value.oneCell']; (with_reducible refine hK _ ?_))
  (refine WpA_sreg [] [] (by simp) fun K hK => ?_; simp (disch := omega) only [kc, prep1, ofConst, Value.oneCell']; (with_reducible refine hK _ ?_))
  (refine WpA_seq (WpA_sreg [] [] (by simp) fun K hK => ?_); simp (disch := omega) only [kc, prep1, ofConst, Value.oneCell']; (with_reducible refine hK _ ?_))
  refine WpA_forb (G := SumG m n) (fun g => ⟨[slU m, slU n, jk, jk, .raw (.slice none 0 0), .one (.sl 46 0 0 g.o.length), .raw (.int .u64 (g.c : Int)), .raw (.int .i64 (g.i : Int)), jk, jk, jk, jk, jk, jk, jk, jk, jk, jk, jk, jk, jk, jk, jk, jk, jk, jk, jk, jk, jk, jk, jk, jk, jk, jk, jk, jk, jk, jk, jk, jk, jk, jk, jk, jk, jk, jk, jk, jk, jk, jk, jk, jk, jk, jk], Hm [(46, [⟨92, 1, lc fU g.o⟩])]⟩) (fun g => max m.length n.length - g.i) ⟨0, [], 0, by omega, by omega, rfl, rfl⟩ ?_ ?_
  · refine (Weak_nil (k := 5) (d := 46) 92 1 (by omega) rfl rfl).trans (Weak_sub ⟨rfl, trivial⟩ ?_)
    simp [wkL, okTV, okAV]
  · rintro ⟨i, o, c, hi, hc, ho, h⟩
    simp only
    have hmx : max m.length n.length ≤ 1073741824 := by omega
    by_cases hm : i < m.length
    · obtain ⟨a, ha⟩ := getElem?_of_lt hm
      have ha' := lmb_at lm ha
      (refine WpA_seq (WpA_sreg [] [] (by simp) fun K hK => ?_); simp (disch := omega) only [kc, prep1, Nat.reduceAdd, slU, Hm, opS_len, effR, ty_slice49, ls_len, effM, evBin, decT, stS_guard, reduceCtorEq, Option.map_none, opS_pick, ofConst, Value.oneCell']; (with_reducible refine hK _ ?_))
      refine WpA_cond rfl (fun _ => WpA_skip ?_) (fun h => by simp at h <;> omega)
      refine WpA_seq (WpA_block ?_)
      (refine WpA_seq (WpA_sreg [] [] (by simp) fun K hK => ?_); simp (disch := omega) only [kc, prep1, Nat.reduceAdd, opS_len, effR, ty_slice49, ls_len, effM, evBin, decT]; (with_reducible refine hK _ ?_))
      refine WpA_cond rfl (fun _ => ?_) (fun h => by simp at h <;> omega)
      ((refine WpA_lreg [] [] (by simp) fun K hK => ?_); simp (disch := omega) only [kc, prep1, Nat.reduceAdd, opS_indexAddr, effR, natOf_pos, ty_slice49, ls_get, ha, fU, ty_sz92, packT, ty_agg92, opS_conv, effM, Tryz.underlying92, ty_int43, wrapU, evBin]; (with_reducible refine hK _ ?_))
      show WpA _ _ _ _
      (refine WpA_seq (WpA_sreg [] [] (by simp) fun K hK => ?_); simp (disch := omega) only [kc, prep1, Nat.reduceAdd, opS_len, effR, ty_slice49, ls_len, effM, evBin]; (with_reducible refine hK _ ?_))
      by_cases hn : i < n.length
      · obtain ⟨b, hb⟩ := getElem?_of_lt hn
        have hb' := lmb_at ln hb
        refine WpA_cond rfl (fun _ => ?_) (fun h => by simp at h <;> omega)
        ((refine WpA_lreg [] [] (by simp) fun K hK => ?_); simp (disch := omega) only [kc, prep1, Nat.reduceAdd, decT, opS_indexAddr, effR, natOf_pos, ty_slice49, ls_get, hb, fU, ty_sz92, packT, ty_agg92, opS_conv, effM, Tryz.underlying92, ty_int43, wrapU, evBin]; (with_reducible refine hK _ ?_))
        show WpA _ _ _ _
        have e1 : IntKind.u32.wrap ((c : Int) + (a : Int) + (b : Int)) = (((c + a + b) % 4294967296 : Nat) : Int) := by rw [← w32]; congr 1 <;> omega
        have e2 : Int.fdiv ((c : Int) + (a : Int) + (b : Int)) (2 ^ (min 32 IntKind.u64.bits)) = (((c + a + b) / 4294967296 : Nat) : Int) := by rw [← s32]; congr 1 <;> omega
        (refine WpA_sreg [] [] (by simp) fun K hK => ?_; simp (disch := omega) only [kc, prep1, Nat.reduceAdd, opS_conv, effM, Tryz.underlying43, ty_int92, e1, opS_buildSlice, newS, effA, ty_slice49, ty_zero92, ty_sz92, litA, cellsOf, isPure, Nat.reduceMul, Nat.reduceLeDiff, List.contains_nil, unP, ifT, opS_append, appS, effD, newsOf, ty_by92, lc_allp, lc_len, allcons, allnil, and_true, killO, lc_kill, lcU_snoc, wrS, killTV, killAV]; (with_reducible refine hK _ ?_))
        ((refine WpA_lreg [] [] (by simp) fun K hK => ?_); simp (disch := omega) only [kc, prep1, Nat.reduceAdd, effM, ofConst, Value.oneCell', evBin, Int.reduceLE, Int.reduceToNat, e2]; (with_reducible refine hK _ ?_))
        show WpA _ _ _ _
        ((refine WpA_lreg [] [] (by simp) fun K hK => ?_); simp (disch := omega) only [kc, prep1, Nat.reduceAdd, effM, ofConst, Value.oneCell', evBin, wrapI]; (with_reducible refine hK _ ?_))
        refine ⟨⟨i + 1, o ++ [(c + a + b) % 4294967296], (c + a + b) / 4294967296, by omega, by omega, by simp [ho], ?_⟩, by simp only; omega, Weak_sub ⟨rfl, trivial⟩ ?_⟩
        · rw [← h, drop_at ha, drop_at hb, sumL, List.append_assoc]; rfl
        · simp [wkL, okTV, okAV]
      · refine WpA_cond rfl (fun h => by simp at h <;> omega) (fun _ => WpA_skip ?_)
        show WpA _ _ _ _
        have e1 : IntKind.u32.wrap ((c : Int) + (a : Int)) = (((c + a) % 4294967296 : Nat) : Int) := by rw [← w32]; congr 1 <;> omega
        have e2 : Int.fdiv ((c : Int) + (a : Int)) (2 ^ (min 32 IntKind.u64.bits)) = (((c + a) / 4294967296 : Nat) : Int) := by rw [← s32]; congr 1 <;> omega
        (refine WpA_sreg [] [] (by simp) fun K hK => ?_; simp (disch := omega) only [kc, prep1, Nat.reduceAdd, decF, opS_conv, effM, Tryz.underlying43, ty_int92, e1, opS_buildSlice, newS, effA, ty_slice49, ty_zero92, ty_sz92, litA, cellsOf, isPure, Nat.reduceMul, Nat.reduceLeDiff, List.contains_nil, unP, ifT, opS_append, appS, effD, newsOf, ty_by92, lc_allp, lc_len, allcons, allnil, and_true, killO, lc_kill, lcU_snoc, wrS, killTV, killAV]; (with_reducible refine hK _ ?_))
        ((refine WpA_lreg [] [] (by simp) fun K hK => ?_); simp (disch := omega) only [kc, prep1, Nat.reduceAdd, effM, ofConst, Value.oneCell', evBin, Int.reduceLE, Int.reduceToNat, e2]; (with_reducible refine hK _ ?_))
        show WpA _ _ _ _
        ((refine WpA_lreg [] [] (by simp) fun K hK => ?_); simp (disch := omega) only [kc, prep1, Nat.reduceAdd, effM, ofConst, Value.oneCell', evBin, wrapI]; (with_reducible refine hK _ ?_))
        refine ⟨⟨i + 1, o ++ [(c + a) % 4294967296], (c + a) / 4294967296, by omega, by omega, by simp [ho], ?_⟩, by simp only; omega, Weak_sub ⟨rfl, trivial⟩ ?_⟩
        · rw [← h, drop_at ha, drop_out (by omega : n.length ≤ i), drop_out (by omega : n.length ≤ i + 1), sumL, List.append_assoc]; rfl
        · simp [wkL, okTV, okAV]
    · by_cases hn : i < n.length
      · obtain ⟨b, hb⟩ := getElem?_of_lt hn
        have hb' := lmb_at ln hb
        (refine WpA_seq (WpA_sreg [] [] (by simp) fun K hK => ?_); simp (disch := omega) only [kc, prep1, Nat.reduceAdd, slU, Hm, opS_len, effR, ty_slice49, ls_len, effM, evBin, decF, stS_guard, decT, ifT, opS_pick]; (with_reducible refine hK _ ?_))
        refine WpA_cond rfl (fun _ => WpA_skip ?_) (fun h => by simp at h <;> omega)
        refine WpA_seq (WpA_block ?_)
        (refine WpA_seq (WpA_sreg [] [] (by simp) fun K hK => ?_); simp (disch := omega) only [kc, prep1, Nat.reduceAdd, opS_len, effR, ty_slice49, ls_len, effM, evBin, decF]; (with_reducible refine hK _ ?_))
        refine WpA_cond rfl (fun h => by simp at h <;> omega) (fun _ => WpA_skip ?_)
        show WpA _ _ _ _
        (refine WpA_seq (WpA_sreg [] [] (by simp) fun K hK => ?_); simp (disch := omega) only [kc, prep1, Nat.reduceAdd, opS_len, effR, ty_slice49, ls_len, effM, evBin, decT]; (with_reducible refine hK _ ?_))
        refine WpA_cond rfl (fun _ => ?_) (fun h => by simp at h <;> omega)
        ((refine WpA_lreg [] [] (by simp) fun K hK => ?_); simp (disch := omega) only [kc, prep1, Nat.reduceAdd, opS_indexAddr, effR, natOf_pos, ty_slice49, ls_get, hb, fU, ty_sz92, packT, ty_agg92, opS_conv, effM, Tryz.underlying92, ty_int43, wrapU, evBin]; (with_reducible refine hK _ ?_))
        show WpA _ _ _ _
        have e1 : IntKind.u32.wrap ((c : Int) + (b : Int)) = (((c + b) % 4294967296 : Nat) : Int) := by rw [← w32]; congr 1 <;> omega
        have e2 : Int.fdiv ((c : Int) + (b : Int)) (2 ^ (min 32 IntKind.u64.bits)) = (((c + b) / 4294967296 : Nat) : Int) := by rw [← s32]; congr 1 <;> omega
        (refine WpA_sreg [] [] (by simp) fun K hK => ?_; simp (disch := omega) only [kc, prep1, Nat.reduceAdd, opS_conv, effM, Tryz.underlying43, ty_int92, e1, opS_buildSlice, newS, effA, ty_slice49, ty_zero92, ty_sz92, litA, cellsOf, isPure, Nat.reduceMul, Nat.reduceLeDiff, List.contains_nil, unP, ifT, opS_append, appS, effD, newsOf, ty_by92, lc_allp, lc_len, allcons, allnil, and_true, killO, lc_kill, lcU_snoc, wrS, killTV, killAV]; (with_reducible refine hK _ ?_))
        ((refine WpA_lreg [] [] (by simp) fun K hK => ?_); simp (disch := omega) only [kc, prep1, Nat.reduceAdd, effM, ofConst, Value.oneCell', evBin, Int.reduceLE, Int.reduceToNat, e2]; (with_reducible refine hK _ ?_))
        show WpA _ _ _ _
        ((refine WpA_lreg [] [] (by simp) fun K hK => ?_); simp (disch := omega) only [kc, prep1, Nat.reduceAdd, effM, ofConst, Value.oneCell', evBin, wrapI]; (with_reducible refine hK _ ?_))
        refine ⟨⟨i + 1, o ++ [(c + b) % 4294967296], (c + b) / 4294967296, by omega, by omega, by simp [ho], ?_⟩, by simp only; omega, Weak_sub ⟨rfl, trivial⟩ ?_⟩
        · rw [← h, drop_at hb, drop_out (by omega : m.length ≤ i), drop_out (by omega : m.length ≤ i + 1), sumL, List.append_assoc]; rfl
        · simp [wkL, okTV, okAV]
      · (refine WpA_seq (WpA_sreg [] [] (by simp) fun K hK => ?_); simp (disch := omega) only [kc, prep1, Nat.reduceAdd, slU, Hm, opS_len, effR, ty_slice49, ls_len, effM, evBin, decF, stS_guard, ifT, opS_pick]; (with_reducible refine hK _ ?_))
        refine WpA_cond rfl (fun h => by simp at h <;> omega) (fun _ => WpA_exit ?_)
        show WpA _ _ _ _
        have e1 : IntKind.u32.wrap (c : Int) = (c : Int) := by rw [w32]; omega
        (refine WpA_sreg [] [] (by simp) fun K hK => ?_; simp (disch := omega) only [kc, prep1, Nat.reduceAdd, opS_conv, effM, Tryz.underlying43, ty_int92, e1, opS_buildSlice, newS, effA, ty_slice49, ty_zero92, ty_sz92, litA, cellsOf, isPure, Nat.reduceMul, Nat.reduceLeDiff, List.contains_nil, unP, ifT, opS_append, appS, effD, newsOf, ty_by92, lc_allp, lc_len, allcons, allnil, and_true, killO, lc_kill, lcU_snoc, wrS, killTV, killAV]; (with_reducible refine hK _ ?_))
        have hfin : sumL m n 0 = o ++ [c] := by rw [← h, drop_out (by omega : m.length ≤ i), drop_out (by omega : n.length ≤ i), sumL]
        (refine WpA_ret ⟨.inr rfl, ret_fz 46 (fzOk_one rfl) ?_ rfl⟩; simp (disch := omega) only [kc, resA, Tryz.results153, resOne, fzTV, fzAV, updH, ifT, lc_take, lc_cellF, slU])
        simp only [hfin]
        rw [List.take_of_length_le (by simp)]
def diffL : List Nat → List Nat → Nat → List Nat
  | [], _, _ => []
  | a :: m, [], w => (a + 8589934592 - w) % 4294967296 :: diffL m [] (if a < w then 1 else 0)
  | a :: m, b :: n, w => (a + 8589934592 - (w + b)) % 4294967296 :: diffL m n (if a < w + b then 1 else 0)
theorem natV_diffL : ∀ (m n : List Nat) (w : Nat), Lmb m → Lmb n → w ≤ 1 → n.length ≤ m.length → natV n + w ≤ natV m → natV (diffL m n w) + (natV n + w) = natV m
  | [], [], w, _, _, _, _, h => by simp [diffL, natV] at *; omega
  | [], b :: n, w, _, _, _, h, _ => by simp at h
  | a :: m, [], w, hm, hn, hw, hl, h => by
    rw [lmb_cons] at hm
    simp only [natV] at h
    have := natV_diffL m [] (if a < w then 1 else 0) hm.2 hn (by split <;> omega) (by simp) (by simp only [natV]; split <;> omega)
    simp only [diffL, natV] at this ⊢
    split at this <;> rename_i hlt <;> simp only [hlt, if_true, if_false] <;> omega
  | a :: m, b :: n, w, hm, hn, hw, hl, h => by
    rw [lmb_cons] at hm hn
    simp only [natV] at h
    have := natV_diffL m n (if a < w + b then 1 else 0) hm.2 hn.2 (by split <;> omega) (by simpa using hl) (by split <;> omega)
    simp only [diffL, natV] at this ⊢
    split at this <;> rename_i hlt <;> simp only [hlt, if_true, if_false] <;> omega
theorem lmb_diffL : ∀ (m n : List Nat) (w : Nat), Lmb (diffL m n w)
  | [], n, w => by simp [diffL, Lmb]
  | a :: m, [], w => by rw [diffL, lmb_cons]; exact ⟨Nat.mod_lt _ (by omega), lmb_diffL m [] _⟩
  | a :: m, b :: n, w => by rw [diffL, lmb_cons]; exact ⟨Nat.mod_lt _ (by omega), lmb_diffL m n _⟩
theorem diffL_len : ∀ (m n : List Nat) (w : Nat), (diffL m n w).length = m.length
  | [], n, w => by simp [diffL]
  | a :: m, [], w => by simp [diffL, diffL_len m []]
  | a :: m, b :: n, w => by simp [diffL, diffL_len m n]
structure DifG (m n : List Nat) where
  i : Nat
  o : List Nat
  c : Nat
  hi : i ≤ m.length
  hc : c ≤ 1
  ho : o.length = i
  h : o ++ diffL (m.drop i) (n.drop i) c = diffL m n 0
set_option maxRecDepth 100000 in
set_option maxHeartbeats 2000000 in
theorem difference_C (m n : List Nat) (lm : Lmb m) (ln : Lmb n) (bm : m.length ≤ 1073741824) (bn : n.length ≤ 1073741824) :
    CallC Tryz.prog 154 [slU m, slU n] ⟨[], slU (diffL m n 0)⟩ := by
  refine callC_of Tryz.func154 rfl (by kernel_rfl) ?_; rw [Tryz.ntmps154]
  (refine WpA_sreg [] [] (by simp) fun K hK => ?_; simp (disch := omega) only [kc, prep1, slU, Nat.reduceAdd, List.replicate, ofConst, Value.oneCell']; (with_reducible refine hK _ ?_))
  (refine WpA_sreg [] [] (by simp) fun K hK => ?_; simp (disch := omega) only [kc, prep1, ofConst, Value.oneCell']; (with_reducible refine hK _ ?_))
  (refine WpA_sreg [] [] (by simp) fun K hK => ?_; simp (disch := omega) only [kc, prep1, ofConst, Value.oneCell']; (with_reducible refine hK _ ?_))
  (refine WpA_seq (WpA_sreg [] [] (by simp) fun K hK => ?_); simp (disch := omega) only [kc, prep1, ofConst, Value.oneCell']; (with_reducible refine hK _ ?_))
  refine WpA_forb (G := DifG m n) (fun g => ⟨[slU m, slU n, jk, jk, .raw (.slice none 0 0), .one (.sl 37 0 0 g.o.length), .raw (.int .u64 (g.c : Int)), .raw (.int .i64 (g.i : Int)), jk, jk, jk, jk, jk, jk, jk, jk, jk, jk, jk, jk, jk, jk, jk, jk, jk, jk, jk, jk, jk, jk, jk, jk, jk, jk, jk, jk, jk, jk, jk, jk, jk, jk, jk, jk, jk, jk], Hm [(37, [⟨92, 1, lc fU g.o⟩])]⟩) (fun g => m.length - g.i) ⟨0, [], 0, by omega, by omega, rfl, rfl⟩ ?_ ?_
  · refine (Weak_nil (k := 5) (d := 37) 92 1 (by omega) rfl rfl).trans (Weak_sub ⟨rfl, trivial⟩ ?_)
    simp [wkL, okTV, okAV]
  · rintro ⟨i, o, c, hi, hc, ho, h⟩
    simp only
    by_cases hm : i < m.length
    · obtain ⟨a, ha⟩ := getElem?_of_lt hm
      have ha' := lmb_at lm ha
      (refine WpA_seq (WpA_sreg [] [] (by simp) fun K hK => ?_); simp (disch := omega) only [kc, prep1, Nat.reduceAdd, slU, Hm, opS_len, effR, ty_slice49, ls_len, effM, evBin, decT]; (with_reducible refine hK _ ?_))
      refine WpA_cond rfl (fun _ => WpA_skip ?_) (fun h => by simp at h <;> omega)
      refine WpA_seq (WpA_block ?_)
      (refine WpA_sreg [] [] (by simp) fun K hK => ?_; simp (disch := omega) only [kc, prep1]; (with_reducible refine hK _ ?_))
      (refine WpA_seq (WpA_sreg [] [] (by simp) fun K hK => ?_); simp (disch := omega) only [kc, prep1, Nat.reduceAdd, opS_len, effR, ty_slice49, ls_len, effM, evBin]; (with_reducible refine hK _ ?_))
      by_cases hn : i < n.length
      · obtain ⟨b, hb⟩ := getElem?_of_lt hn
        have hb' := lmb_at ln hb
        refine WpA_cond rfl (fun _ => ?_) (fun h => by simp at h <;> omega)
        ((refine WpA_lreg [] [] (by simp) fun K hK => ?_); simp (disch := omega) only [kc, prep1, Nat.reduceAdd, decT, opS_indexAddr, effR, natOf_pos, ty_slice49, ls_get, hb, fU, ty_sz92, packT, ty_agg92, opS_conv, effM, Tryz.underlying92, ty_int43, wrapU, evBin]; (with_reducible refine hK _ ?_))
        show WpA _ _ _ _
        have e1 : IntKind.u32.wrap (IntKind.u64.wrap ((a : Int) - ((c : Int) + (b : Int)))) = (((a + 8589934592 - (c + b)) % 4294967296 : Nat) : Int) := by rw [IntKind.wrap_u32, IntKind.wrap_u64]; omega
        (refine WpA_sreg [] [] (by simp) fun K hK => ?_; simp (disch := omega) only [kc, prep1, Nat.reduceAdd, opS_indexAddr, effR, natOf_pos, ty_slice49, ls_get, ha, fU, ty_sz92, packT, ty_agg92, opS_conv, effM, Tryz.underlying92, ty_int43, wrapU, evBin, Tryz.underlying43, ty_int92, e1, opS_buildSlice, newS, effA, ty_zero92, litA, cellsOf, isPure, Nat.reduceMul, Nat.reduceLeDiff, List.contains_nil, unP, ifT, opS_append, appS, effD, newsOf, ty_by92, lc_allp, lc_len, allcons, allnil, and_true, killO, lc_kill, lcU_snoc, wrS, killTV, killAV]; (with_reducible refine hK _ ?_))
        (refine WpA_sreg [] [] (by simp) fun K hK => ?_; simp (disch := omega) only [kc, prep1, ofConst, Value.oneCell']; (with_reducible refine hK _ ?_))
        (refine WpA_sreg [] [] (by simp) fun K hK => ?_; simp (disch := omega) only [kc, prep1, Nat.reduceAdd, opS_indexAddr, effR, natOf_pos, ty_slice49, ls_get, ha, fU, ty_sz92, packT, ty_agg92, opS_conv, effM, Tryz.underlying92, ty_int43, wrapU, evBin]; (with_reducible refine hK _ ?_))
        by_cases hlt : a < c + b
        · refine WpA_cond rfl (fun _ => ?_) (fun h => by simp at h <;> omega)
          ((refine WpA_lreg [] [] (by simp) fun K hK => ?_); simp (disch := omega) only [kc, prep1, decT, ofConst, Value.oneCell']; (with_reducible refine hK _ ?_))
          show WpA _ _ _ _
          ((refine WpA_lreg [] [] (by simp) fun K hK => ?_); simp (disch := omega) only [kc, prep1, Nat.reduceAdd, effM, ofConst, Value.oneCell', evBin, wrapI]; (with_reducible refine hK _ ?_))
          refine ⟨⟨i + 1, o ++ [(a + 8589934592 - (c + b)) % 4294967296], 1, by omega, by omega, by simp [ho], ?_⟩, by simp only; omega, Weak_sub ⟨rfl, trivial⟩ ?_⟩
          · rw [← h, drop_at ha, drop_at hb, diffL, List.append_assoc, if_pos hlt]; rfl
          · simp [wkL, okTV, okAV]
        · refine WpA_cond rfl (fun h => by simp at h <;> omega) (fun _ => WpA_skip ?_)
          show WpA _ _ _ _
          ((refine WpA_lreg [] [] (by simp) fun K hK => ?_); simp (disch := omega) only [kc, prep1, Nat.reduceAdd, wrapU, decF, effM, ofConst, Value.oneCell', evBin, wrapI]; (with_reducible refine hK _ ?_))
          refine ⟨⟨i + 1, o ++ [(a + 8589934592 - (c + b)) % 4294967296], 0, by omega, by omega, by simp [ho], ?_⟩, by simp only; omega, Weak_sub ⟨rfl, trivial⟩ ?_⟩
          · rw [← h, drop_at ha, drop_at hb, diffL, List.append_assoc, if_neg hlt]; rfl
          · simp [wkL, okTV, okAV]
      · refine WpA_cond rfl (fun h => by simp at h <;> omega) (fun _ => WpA_skip ?_)
        show WpA _ _ _ _
        have e1 : IntKind.u32.wrap (IntKind.u64.wrap ((a : Int) - (c : Int))) = (((a + 8589934592 - c) % 4294967296 : Nat) : Int) := by rw [IntKind.wrap_u32, IntKind.wrap_u64]; omega
        (refine WpA_sreg [] [] (by simp) fun K hK => ?_; simp (disch := omega) only [kc, prep1, Nat.reduceAdd, decF, opS_indexAddr, effR, natOf_pos, ty_slice49, ls_get, ha, fU, ty_sz92, packT, ty_agg92, opS_conv, effM, Tryz.underlying92, ty_int43, wrapU, evBin, Tryz.underlying43, ty_int92, e1, opS_buildSlice, newS, effA, ty_zero92, litA, cellsOf, isPure, Nat.reduceMul, Nat.reduceLeDiff, List.contains_nil, unP, ifT, opS_append, appS, effD, newsOf, ty_by92, lc_allp, lc_len, allcons, allnil, and_true, killO, lc_kill, lcU_snoc, wrS, killTV, killAV]; (with_reducible refine hK _ ?_))
        (refine WpA_sreg [] [] (by simp) fun K hK => ?_; simp (disch := omega) only [kc, prep1, ofConst, Value.oneCell']; (with_reducible refine hK _ ?_))
        (refine WpA_sreg [] [] (by simp) fun K hK => ?_; simp (disch := omega) only [kc, prep1, Nat.reduceAdd, opS_indexAddr, effR, natOf_pos, ty_slice49, ls_get, ha, fU, ty_sz92, packT, ty_agg92, opS_conv, effM, Tryz.underlying92, ty_int43, wrapU, evBin]; (with_reducible refine hK _ ?_))
        by_cases hlt : a < c
        · refine WpA_cond rfl (fun _ => ?_) (fun h => by simp at h <;> omega)
          ((refine WpA_lreg [] [] (by simp) fun K hK => ?_); simp (disch := omega) only [kc, prep1, decT, ofConst, Value.oneCell']; (with_reducible refine hK _ ?_))
          show WpA _ _ _ _
          ((refine WpA_lreg [] [] (by simp) fun K hK => ?_); simp (disch := omega) only [kc, prep1, Nat.reduceAdd, effM, ofConst, Value.oneCell', evBin, wrapI]; (with_reducible refine hK _ ?_))
          refine ⟨⟨i + 1, o ++ [(a + 8589934592 - c) % 4294967296], 1, by omega, by omega, by simp [ho], ?_⟩, by simp only; omega, Weak_sub ⟨rfl, trivial⟩ ?_⟩
          · rw [← h, drop_at ha, drop_out (by omega : n.length ≤ i), drop_out (by omega : n.length ≤ i + 1), diffL, List.append_assoc, if_pos hlt]; rfl
          · simp [wkL, okTV, okAV]
        · refine WpA_cond rfl (fun h => by simp at h <;> omega) (fun _ => WpA_skip ?_)
          show WpA _ _ _ _
          ((refine WpA_lreg [] [] (by simp) fun K hK => ?_); simp (disch := omega) only [kc, prep1, Nat.reduceAdd, wrapU, decF, effM, ofConst, Value.oneCell', evBin, wrapI]; (with_reducible refine hK _ ?_))
          refine ⟨⟨i + 1, o ++ [(a + 8589934592 - c) % 4294967296], 0, by omega, by omega, by simp [ho], ?_⟩, by simp only; omega, Weak_sub ⟨rfl, trivial⟩ ?_⟩
          · rw [← h, drop_at ha, drop_out (by omega : n.length ≤ i), drop_out (by omega : n.length ≤ i + 1), diffL, List.append_assoc, if_neg hlt]; rfl
          · simp [wkL, okTV, okAV]
    · (refine WpA_seq (WpA_sreg [] [] (by simp) fun K hK => ?_); simp (disch := omega) only [kc, prep1, Nat.reduceAdd, slU, Hm, opS_len, effR, ty_slice49, ls_len, effM, evBin, decF]; (with_reducible refine hK _ ?_))
      refine WpA_cond rfl (fun h => by simp at h <;> omega) (fun _ => WpA_exit ?_)
      show WpA _ _ _ _
      (refine WpA_sreg [] [] (by simp) fun K hK => ?_; simp (disch := omega) only [kc, prep1]; (with_reducible refine hK _ ?_))
      have hfin : diffL m n 0 = o := by rw [← h, drop_out (by omega : m.length ≤ i), diffL]; simp
      (refine WpA_ret ⟨.inr rfl, ret_fz 37 (fzOk_one rfl) ?_ rfl⟩; simp (disch := omega) only [kc, resA, Tryz.results154, resOne, fzTV, fzAV, ifT, lc_take, lc_cellF, slU])
      simp only [hfin]
      rw [List.take_of_length_le (by simp)]
end Go.Proofs.YtennjcjjegbhgaaGreat
namespace Go.Proofs.YtennjcjjegbhgaaGreat
open Go.RowKit
abbrev Bh (z : Int) : Prop := Sz z 536870912
theorem Bh.bg {z : Int} (h : Bh z) : Bg z := h.mono (by omega)
theorem Bh.len {z : Int} (h : Bh z) : (limbs z.natAbs).length ≤ 536870912 := limbs_len h
theorem Sz.neg {z : Int} {k : Nat} (h : Sz z k) : Sz (-z) k := by unfold Sz; rw [Int.natAbs_neg]; exact h
theorem Bh.neg {z : Int} (h : Bh z) : Bh (-z) := Sz.neg h
theorem add_same {a b : Int} (h : decide (a < 0) = decide (b < 0)) : sgn (decide (a < 0)) (a.natAbs + b.natAbs) = a + b := by
  unfold sgn
  by_cases ha : a < 0 <;> by_cases hb : b < 0 <;> simp [ha, hb] at h ⊢ <;> omega
theorem add_diff {a b : Int} (h : decide (a < 0) ≠ decide (b < 0)) (hle : b.natAbs ≤ a.natAbs) {d : Nat} (hd : d + (b.natAbs + 0) = a.natAbs) : sgn (decide (a < 0)) d = a + b := by
  unfold sgn
  by_cases ha : a < 0 <;> by_cases hb : b < 0 <;> simp [ha, hb] at h ⊢ <;> omega
theorem natV_le_len {l m : List Nat} (hl : Lmb l) (cm : Can m) (h : natV m ≤ natV l) : m.length ≤ l.length := by
  by_cases hc : m.length ≤ l.length
  · exact hc
  · have := natV_lt_len hl cm (by omega)
    omega
set_option maxRecDepth 100000 in
set_option maxHeartbeats 2000000 in
theorem Add_C (a b : Int) (ha : Bh a) (hb : Bh b) : CallC Tryz.prog 132 [tZ a, tZ b] ⟨[], tZ (a + b)⟩ := by
  have la := ha.len
  have lb := hb.len
  have t1 := trim_C (limbs a.natAbs) ha.bg.len
  have t2 := trim_C (limbs b.natAbs) hb.bg.len
  rw [trim_id] at t1 t2
  by_cases hs : decide (a < 0) = decide (b < 0)
  · have h3 := sum_C (limbs a.natAbs) (limbs b.natAbs) (lmb_limbs _) (lmb_limbs _) (by omega) (by omega)
    have h4 := make_C (decide (a < 0)) (sumL (limbs a.natAbs) (limbs b.natAbs) 0) (lmb_sumL _ _ _ (lmb_limbs _) (lmb_limbs _) (by omega)) (by rw [sumL_len]; omega)
    rw [natV_sumL, natV_limbs, natV_limbs, Nat.add_zero, add_same hs] at h4
    have hs' : (decide (a < 0) == decide (b < 0)) = true := by simp [hs]
    refine callC_of Tryz.func132 rfl (by kernel_rfl) ?_; rw [Tryz.ntmps132]
    (refine WpA_sreg [] [] (by simp) fun K hK => ?_; simp (disch := omega) only [kc, prep1, Nat.reduceAdd, tZ, List.replicate, opS_box, newS, effA, cellsOf, isPure, ifT, updH, Nat.reduceEqDiff, opS_alloc, ty_zero51, Value.oneCell', ifF]; (with_reducible refine hK _ ?_))
    (refine WpA_sdraw mixedA [⟨2, _, _, _, t1⟩, ⟨5, _, _, _, t2⟩] [] (by kernel_rfl) (by simp) fun K hK => ?_; simp (disch := omega) only [kc, slU, CItem.a, prep1, Nat.reduceAdd, opS_fieldAddr, effR, ty_fld51_1, ty_sz49, updH, Nat.reduceEqDiff, ifF, packT, ty_agg49, opS_call, newS, effA, List.find?_cons, evAll, norm, CallRes.plain, rawTV, rawAV, normOk, noRefTV, noRefAV, renTV, renAV, Nat.reduceBEq]; (with_reducible refine hK _ ?_))
    (refine WpA_seq (WpA_sreg [] [] (by simp) fun K hK => ?_); simp (disch := omega) only [kc, prep1, Nat.reduceAdd, opS_fieldAddr, effR, ty_fld51_0, ty_sz4, Nat.add_zero, updH, Nat.reduceEqDiff, ifF, packT, ty_agg4, effM, evBin, ty_bool4, hs']; (with_reducible refine hK _ ?_))
    refine WpA_cond rfl (fun _ => ?_) (fun h => by simp at h)
    (refine WpA_sdraw mixedA [⟨4, _, _, _, h3⟩, ⟨5, _, _, _, h4⟩] [] (by kernel_rfl) (by simp) fun K hK => ?_; simp (disch := omega) only [kc, slU, tZ, CItem.a, prep1, Nat.reduceAdd, opS_fieldAddr, effR, ty_fld51_0, ty_sz4, Nat.add_zero, updH, Nat.reduceEqDiff, ifF, packT, ty_agg4, opS_call, newS, effA, List.find?_cons, evAll, norm, CallRes.plain, rawTV, rawAV, normOk, noRefTV, noRefAV, renTV, renAV, Nat.reduceBEq, opS_store, wrS, effD, ty_sz51, cellsOf, Nat.le_refl, isPure, ifT, putCells, killTV, killAV]; (with_reducible refine hK _ ?_))
    (refine WpA_ret ⟨.inr rfl, ret_now rfl ?_ rfl⟩; simp (disch := omega) only [kc, resA, Tryz.results132, resOne, updH, Nat.reduceEqDiff, ifF, packT, ty_sz51, ty_agg51, Nat.reduceAdd, Nat.le_refl, tZ])
  · have hs' : (decide (a < 0) == decide (b < 0)) = false := by simpa using hs
    have h3 := cmp_C (limbs a.natAbs) (limbs b.natAbs) (lmb_limbs _) (lmb_limbs _) (can_limbs _) (can_limbs _) (by omega) (by omega)
    rw [natV_limbs, natV_limbs] at h3
    by_cases hle : b.natAbs ≤ a.natAbs
    · have hge : 0 ≤ cmpU a.natAbs b.natAbs := by unfold cmpU; split <;> (try split) <;> omega
      have h4 := difference_C (limbs a.natAbs) (limbs b.natAbs) (lmb_limbs _) (lmb_limbs _) (by omega) (by omega)
      have h5 := make_C (decide (a < 0)) (diffL (limbs a.natAbs) (limbs b.natAbs) 0) (lmb_diffL _ _ _) (by rw [diffL_len]; omega)
      have hd := natV_diffL (limbs a.natAbs) (limbs b.natAbs) 0 (lmb_limbs _) (lmb_limbs _) (by omega) (natV_le_len (lmb_limbs _) (can_limbs _) (by rw [natV_limbs, natV_limbs]; exact hle)) (by rw [natV_limbs, natV_limbs]; exact hle)
      rw [natV_limbs, natV_limbs] at hd
      rw [add_diff hs hle hd] at h5
      refine callC_of Tryz.func132 rfl (by kernel_rfl) ?_; rw [Tryz.ntmps132]
      (refine WpA_sreg [] [] (by simp) fun K hK => ?_; simp (disch := omega) only [kc, prep1, Nat.reduceAdd, tZ, List.replicate, opS_box, newS, effA, cellsOf, isPure, ifT, updH, Nat.reduceEqDiff, opS_alloc, ty_zero51, Value.oneCell', ifF]; (with_reducible refine hK _ ?_))
      (refine WpA_sdraw mixedA [⟨2, _, _, _, t1⟩, ⟨5, _, _, _, t2⟩] [] (by kernel_rfl) (by simp) fun K hK => ?_; simp (disch := omega) only [kc, slU, CItem.a, prep1, Nat.reduceAdd, opS_fieldAddr, effR, ty_fld51_1, ty_sz49, updH, Nat.reduceEqDiff, ifF, packT, ty_agg49, opS_call, newS, effA, List.find?_cons, evAll, norm, CallRes.plain, rawTV, rawAV, normOk, noRefTV, noRefAV, renTV, renAV, Nat.reduceBEq]; (with_reducible refine hK _ ?_))
      (refine WpA_seq (WpA_sreg [] [] (by simp) fun K hK => ?_); simp (disch := omega) only [kc, prep1, Nat.reduceAdd, opS_fieldAddr, effR, ty_fld51_0, ty_sz4, Nat.add_zero, updH, Nat.reduceEqDiff, ifF, packT, ty_agg4, effM, evBin, ty_bool4, hs']; (with_reducible refine hK _ ?_))
      refine WpA_cond rfl (fun h => by simp at h) (fun _ => WpA_skip ?_)
      show WpA _ _ _ _
      (refine WpA_seq (WpA_sreg [⟨2, _, _, _, h3⟩] [] (by simp) fun K hK => ?_); simp (disch := omega) only [kc, slU, CItem.a, prep1, Nat.reduceAdd, opS_call, newS, effA, List.find?_cons, evAll, norm, CallRes.plain, rawTV, rawAV, normOk, noRefTV, noRefAV, renTV, renAV, effM, ofConst, Value.oneCell', evBin, decT]; (with_reducible refine hK _ ?_))
      refine WpA_cond rfl (fun _ => ?_) (fun h => by simp at h <;> omega)
      (refine WpA_sdraw mixedA [⟨4, _, _, _, h4⟩, ⟨5, _, _, _, h5⟩] [] (by kernel_rfl) (by simp) fun K hK => ?_; simp (disch := omega) only [kc, slU, tZ, CItem.a, prep1, Nat.reduceAdd, opS_fieldAddr, effR, ty_fld51_0, ty_sz4, Nat.add_zero, updH, Nat.reduceEqDiff, ifF, packT, ty_agg4, opS_call, newS, effA, List.find?_cons, evAll, norm, CallRes.plain, rawTV, rawAV, normOk, noRefTV, noRefAV, renTV, renAV, Nat.reduceBEq, opS_store, wrS, effD, ty_sz51, cellsOf, Nat.le_refl, isPure, ifT, putCells, killTV, killAV]; (with_reducible refine hK _ ?_))
      (refine WpA_ret ⟨.inr rfl, ret_now rfl ?_ rfl⟩; simp (disch := omega) only [kc, resA, Tryz.results132, resOne, updH, Nat.reduceEqDiff, ifF, packT, ty_sz51, ty_agg51, Nat.reduceAdd, Nat.le_refl, tZ])
    · have hge : cmpU a.natAbs b.natAbs < 0 := by unfold cmpU; split <;> (try split) <;> omega
      have h4 := difference_C (limbs b.natAbs) (limbs a.natAbs) (lmb_limbs _) (lmb_limbs _) (by omega) (by omega)
      have h5 := make_C (decide (b < 0)) (diffL (limbs b.natAbs) (limbs a.natAbs) 0) (lmb_diffL _ _ _) (by rw [diffL_len]; omega)
      have hd := natV_diffL (limbs b.natAbs) (limbs a.natAbs) 0 (lmb_limbs _) (lmb_limbs _) (by omega) (natV_le_len (lmb_limbs _) (can_limbs _) (by rw [natV_limbs, natV_limbs]; omega)) (by rw [natV_limbs, natV_limbs]; omega)
      rw [natV_limbs, natV_limbs] at hd
      rw [add_diff (fun h => hs h.symm) (by omega) hd, Int.add_comm] at h5
      refine callC_of Tryz.func132 rfl (by kernel_rfl) ?_; rw [Tryz.ntmps132]
      (refine WpA_sreg [] [] (by simp) fun K hK => ?_; simp (disch := omega) only [kc, prep1, Nat.reduceAdd, tZ, List.replicate, opS_box, newS, effA, cellsOf, isPure, ifT, updH, Nat.reduceEqDiff, opS_alloc, ty_zero51, Value.oneCell', ifF]; (with_reducible refine hK _ ?_))
      (refine WpA_sdraw mixedA [⟨2, _, _, _, t1⟩, ⟨5, _, _, _, t2⟩] [] (by kernel_rfl) (by simp) fun K hK => ?_; simp (disch := omega) only [kc, slU, CItem.a, prep1, Nat.reduceAdd, opS_fieldAddr, effR, ty_fld51_1, ty_sz49, updH, Nat.reduceEqDiff, ifF, packT, ty_agg49, opS_call, newS, effA, List.find?_cons, evAll, norm, CallRes.plain, rawTV, rawAV, normOk, noRefTV, noRefAV, renTV, renAV, Nat.reduceBEq]; (with_reducible refine hK _ ?_))
      (refine WpA_seq (WpA_sreg [] [] (by simp) fun K hK => ?_); simp (disch := omega) only [kc, prep1, Nat.reduceAdd, opS_fieldAddr, effR, ty_fld51_0, ty_sz4, Nat.add_zero, updH, Nat.reduceEqDiff, ifF, packT, ty_agg4, effM, evBin, ty_bool4, hs']; (with_reducible refine hK _ ?_))
      refine WpA_cond rfl (fun h => by simp at h) (fun _ => WpA_skip ?_)
      show WpA _ _ _ _
      (refine WpA_seq (WpA_sreg [⟨2, _, _, _, h3⟩] [] (by simp) fun K hK => ?_); simp (disch := omega) only [kc, slU, CItem.a, prep1, Nat.reduceAdd, opS_call, newS, effA, List.find?_cons, evAll, norm, CallRes.plain, rawTV, rawAV, normOk, noRefTV, noRefAV, renTV, renAV, effM, ofConst, Value.oneCell', evBin, decF]; (with_reducible refine hK _ ?_))
      refine WpA_cond rfl (fun h => by simp at h <;> omega) (fun _ => WpA_skip ?_)
      show WpA _ _ _ _
      (refine WpA_sdraw mixedA [⟨4, _, _, _, h4⟩, ⟨5, _, _, _, h5⟩] [] (by kernel_rfl) (by simp) fun K hK => ?_; simp (disch := omega) only [kc, slU, tZ, CItem.a, prep1, Nat.reduceAdd, opS_fieldAddr, effR, ty_fld51_0, ty_sz4, Nat.add_zero, updH, Nat.reduceEqDiff, ifF, packT, ty_agg4, opS_call, newS, effA, List.find?_cons, evAll, norm, CallRes.plain, rawTV, rawAV, normOk, noRefTV, noRefAV, renTV, renAV, Nat.reduceBEq, opS_store, wrS, effD, ty_sz51, cellsOf, Nat.le_refl, isPure, ifT, putCells, killTV, killAV]; (with_reducible refine hK _ ?_))
      (refine WpA_ret ⟨.inr rfl, ret_now rfl ?_ rfl⟩; simp (disch := omega) only [kc, resA, Tryz.results132, resOne, updH, Nat.reduceEqDiff, ifF, packT, ty_sz51, ty_agg51, Nat.reduceAdd, Nat.le_refl, tZ])
set_option maxRecDepth 100000 in
set_option maxHeartbeats 2000000 in
theorem Sub_C (a b : Int) (ha : Bh a) (hb : Bh b) : CallC Tryz.prog 146 [tZ a, tZ b] ⟨[], tZ (a - b)⟩ := by
  have h1 := neg_C b hb.bg
  have h2 := Add_C a (-b) ha hb.neg
  rw [← Int.sub_eq_add_neg] at h2
  refine callC_of Tryz.func146 rfl (by kernel_rfl) ?_; rw [Tryz.ntmps146]
  (refine WpA_sreg [] [] (by simp) fun K hK => ?_; simp (disch := omega) only [kc, prep1, Nat.reduceAdd, tZ, List.replicate, opS_box, newS, effA, cellsOf, isPure, ifT, updH, Nat.reduceEqDiff, opS_alloc, ty_zero51, Value.oneCell', ifF]; (with_reducible refine hK _ ?_))
  (refine WpA_sdraw mixedA [⟨2, _, _, _, h1⟩, ⟨3, _, _, _, h2⟩] [] (by kernel_rfl) (by simp) fun K hK => ?_; simp (disch := omega) only [kc, tZ, CItem.a, prep1, Nat.reduceAdd, effR, updH, Nat.reduceEqDiff, ifF, packT, ty_sz51, ty_agg51, Nat.le_refl, opS_call, newS, effA, List.find?_cons, evAll, norm, CallRes.plain, rawTV, rawAV, normOk, isPure, noRefTV, noRefAV, renTV, renAV, Nat.reduceBEq, opS_store, wrS, effD, cellsOf, ifT, putCells, killTV, killAV]; (with_reducible refine hK _ ?_))
  (refine WpA_ret ⟨.inr rfl, ret_now rfl ?_ rfl⟩; simp (disch := omega) only [kc, resA, Tryz.results146, resOne, updH, Nat.reduceEqDiff, ifF, packT, ty_sz51, ty_agg51, Nat.reduceAdd, Nat.le_refl, tZ])
end Go.Proofs.YtennjcjjegbhgaaGreat
namespace Go.Proofs.YtennjcjjegbhgaaGreat
open Go.RowKit
theorem natV_set : ∀ (l : List Nat) (k v o : Nat), l[k]? = some o → natV (l.set k v) + o * 4294967296 ^ k = natV l + v * 4294967296 ^ k
  | [], k, v, o, h => by simp at h
  | a :: l, 0, v, o, h => by simp at h; subst h; simp [natV]; omega
  | a :: l, k + 1, v, o, h => by
    simp at h
    have := natV_set l k v o h
    simp only [List.set_cons_succ, natV, Nat.pow_succ]
    have e1 : o * (4294967296 ^ k * 4294967296) = 4294967296 * (o * 4294967296 ^ k) := by rw [← Nat.mul_assoc, Nat.mul_comm]
    have e2 : v * (4294967296 ^ k * 4294967296) = 4294967296 * (v * 4294967296 ^ k) := by rw [← Nat.mul_assoc, Nat.mul_comm]
    rw [e1, e2]
    omega
theorem lmb_set {l : List Nat} (h : Lmb l) {k v : Nat} (hv : v < 4294967296) : Lmb (l.set k v) := fun a ha => by
  rcases List.mem_or_eq_of_mem_set ha with ha | rfl
  · exact h a ha
  · exact hv
theorem natV_rep (n : Nat) : natV (List.replicate n 0) = 0 := by induction n with
  | zero => rfl
  | succ n ih => simp [List.replicate_succ, natV, ih]
theorem natV_take_succ {l : List Nat} {i a : Nat} (h : l[i]? = some a) : natV (l.take (i + 1)) = natV (l.take i) + a * 4294967296 ^ i := by
  obtain ⟨h1, rfl⟩ := List.getElem?_eq_some_iff.1 h
  rw [List.take_succ_eq_append_getElem h1, natV_append, List.length_take, Nat.min_eq_left (by omega)]
  simp [natV, Nat.mul_comm]
theorem lcU_rep (n : Nat) : List.replicate n [AV.p (.raw (.int .u32 0))] = lc fU (List.replicate n 0) := by simp [lc, fU]
theorem lcU_set (l : List Nat) (k v : Nat) : (lc fU l).set k [AV.p (.raw (.int .u32 (v : Int)))] = lc fU (l.set k v) := by simp [lc, fU, List.map_set]
structure MulO (A B : List Nat) where
  i : Nat
  O : List Nat
  hi : i ≤ A.length
  len : O.length = A.length + B.length
  lmb : Lmb O
  val : natV O = natV (A.take i) * natV B
  zero : ∀ k, i + B.length ≤ k → k < A.length + B.length → O[k]? = some 0
structure MulI (A B : List Nat) (i a : Nat) where
  j : Nat
  O : List Nat
  c : Nat
  hj : j ≤ B.length
  len : O.length = A.length + B.length
  lmb : Lmb O
  hc : c < 4294967296
  val : natV O + c * 4294967296 ^ (i + j) = natV (A.take i) * natV B + a * natV (B.take j) * 4294967296 ^ i
  zero : ∀ k, i + B.length ≤ k → k < A.length + B.length → O[k]? = some 0
theorem mul_bound {a b : Nat} (ha : a < 4294967296) (hb : b < 4294967296) : a * b ≤ 18446744065119617025 := by
  have : a * b ≤ 4294967295 * 4294967295 := Nat.mul_le_mul (by omega) (by omega)
  omega
theorem mulI_step {A B : List Nat} {i a : Nat} (g : MulI A B i a) {y o : Nat} (hy : B[g.j]? = some y) (ho : g.O[i + g.j]? = some o) (hi : i < A.length) (ha : a < 4294967296) (hy' : y < 4294967296) :
    ∃ g' : MulI A B i a, g'.j = g.j + 1 ∧ g'.O = g.O.set (i + g.j) ((g.c + (a * y + o)) % 4294967296) ∧ g'.c = (g.c + (a * y + o)) / 4294967296 := by
  have hjl : g.j < B.length := (List.getElem?_eq_some_iff.1 hy).1
  have ho' := lmb_at g.lmb ho
  have hb := mul_bound ha hy'
  have hc := g.hc
  refine ⟨⟨g.j + 1, g.O.set (i + g.j) ((g.c + (a * y + o)) % 4294967296), (g.c + (a * y + o)) / 4294967296, hjl, by simp [g.len], lmb_set g.lmb (Nat.mod_lt _ (by omega)), ?_, ?_, fun k h1 h2 => ?_⟩, rfl, rfl, rfl⟩
  · generalize a * y = p at *
    omega
  · have h1 := natV_set g.O (i + g.j) ((g.c + (a * y + o)) % 4294967296) o ho
    have h2 := natV_take_succ hy
    have h3 := g.val
    rw [h2, show i + (g.j + 1) = i + g.j + 1 by omega, Nat.pow_succ, Nat.mul_add a, Nat.add_mul]
    have e1 : a * (y * 4294967296 ^ g.j) * 4294967296 ^ i = a * y * 4294967296 ^ (i + g.j) := by
      rw [← Nat.mul_assoc, Nat.mul_assoc, ← Nat.pow_add, Nat.add_comm g.j i]
    rw [e1]
    generalize 4294967296 ^ (i + g.j) = X at *
    generalize a * y = p at *
    have e2 : (g.c + (p + o)) = (g.c + (p + o)) % 4294967296 + 4294967296 * ((g.c + (p + o)) / 4294967296) := (Nat.mod_add_div _ _).symm
    generalize hr : (g.c + (p + o)) % 4294967296 = r at *
    generalize hq : (g.c + (p + o)) / 4294967296 = q at *
    generalize natV (g.O.set (i + g.j) r) = N at *
    generalize natV g.O = M at *
    generalize natV (A.take i) * natV B = U at *
    generalize a * natV (B.take g.j) * 4294967296 ^ i = V at *
    -- N + o X = M + r X, M + c X = U + V, c + p + o = r + B q
    have e3 : g.c * X + (p * X + o * X) = r * X + q * (X * 4294967296) := by
      have := congrArg (· * X) e2
      simp only [Nat.add_mul] at this
      rw [this]
      congr 1
      rw [Nat.mul_comm 4294967296 q, Nat.mul_assoc, Nat.mul_comm 4294967296 X]
    omega
  · rw [List.getElem?_set_ne (by omega)]
    exact g.zero k h1 h2
theorem mulI_done {A B : List Nat} {i a : Nat} (hA : A[i]? = some a) (g : MulI A B i a) (hj : ¬ g.j < B.length) : ∃ g' : MulO A B, g'.i = i + 1 ∧ g'.O = g.O.set (i + B.length) g.c := by
  have hi := (List.getElem?_eq_some_iff.1 hA).1
  have hjl := g.hj
  have e : g.j = B.length := by omega
  have hz := g.zero (i + B.length) (Nat.le_refl _) (by omega)
  refine ⟨⟨i + 1, g.O.set (i + B.length) g.c, hi, by simp [g.len], lmb_set g.lmb g.hc, ?_, fun k h1 h2 => ?_⟩, rfl, rfl⟩
  · have h1 := natV_set g.O (i + B.length) g.c 0 hz
    have h2 := g.val
    rw [e, List.take_length] at h2
    rw [natV_take_succ hA, Nat.add_mul]
    have e1 : a * 4294967296 ^ i * natV B = a * natV B * 4294967296 ^ i := by rw [Nat.mul_assoc, Nat.mul_comm (4294967296 ^ i), ← Nat.mul_assoc]
    rw [e1]
    omega
  · rw [List.getElem?_set_ne (by omega)]
    exact g.zero k (by omega) h2
theorem mul_sgn (a b : Int) : sgn (!(decide (a < 0) == decide (b < 0))) (a.natAbs * b.natAbs) = a * b := by
  have h := Int.natAbs_mul a b
  unfold sgn
  rcases Int.lt_or_le a 0 with ha | ha <;> rcases Int.lt_or_le b 0 with hb | hb
  · have : 0 < a * b := Int.mul_pos_of_neg_of_neg ha hb
    simp [ha, hb]; omega
  · have : a * b ≤ 0 := Int.mul_nonpos_of_nonpos_of_nonneg (by omega) hb
    have hb' : ¬ b < 0 := by omega
    simp [ha, hb']; omega
  · have : a * b ≤ 0 := Int.mul_nonpos_of_nonneg_of_nonpos ha (by omega)
    have ha' : ¬ a < 0 := by omega
    simp [ha', hb]; omega
  · have : 0 ≤ a * b := Int.mul_nonneg ha hb
    have ha' : ¬ a < 0 := by omega
    have hb' : ¬ b < 0 := by omega
    simp [ha', hb']; omega
end Go.Proofs.YtennjcjjegbhgaaGreat
namespace Go.Proofs.YtennjcjjegbhgaaGreat
open Go.RowKit
abbrev bxZ (neg : Bool) (A : List Nat) : List OObj := [⟨51, 2, [[.p (.raw (.bool neg)), .p (.sl (ls fU A))]]⟩]
abbrev bx0 : List OObj := [⟨51, 2, [[.raw (.bool false), .raw (.slice none 0 0)]]⟩]
set_option maxRecDepth 100000 in
set_option maxHeartbeats 4000000 in
theorem Mul_C (a b : Int) (ha : Bh a) (hb : Bh b) : CallC Tryz.prog 28 [tZ a, tZ b] ⟨[], tZ (a * b)⟩ := by
  have la := ha.len
  have lb := hb.len
  have hlA := lmb_limbs a.natAbs
  have hlB := lmb_limbs b.natAbs
  have vA := natV_limbs a.natAbs
  have vB := natV_limbs b.natAbs
  refine callC_of Tryz.func28 rfl (by kernel_rfl) ?_; rw [Tryz.ntmps28]
  (refine WpA_sreg [] [] (by simp) fun K hK => ?_; simp (disch := omega) only [kc, prep1, Nat.reduceAdd, tZ, List.replicate, opS_box, newS, effA, cellsOf, isPure, ifT, updH, Nat.reduceEqDiff, opS_alloc, ty_zero51, Value.oneCell', ifF]; (with_reducible refine hK _ ?_))
  generalize limbs a.natAbs = A at *
  generalize limbs b.natAbs = B at *
  have e0 : ((A.length : Int) + (B.length : Int)).toNat = A.length + B.length := by omega
  (refine WpA_sreg [] [] (by simp) fun K hK => ?_; simp (disch := omega) only [kc, prep1, Nat.reduceAdd, opS_fieldAddr, effR, ty_fld51_1, ty_sz49, updH, Nat.reduceEqDiff, ifF, packT, ty_agg49, opS_len, ty_slice49, ls_len, effM, evBin, wrapI, opS_makeSlice, newS, effA, ty_zero92, ty_sz92, ty_by92, Value.oneCell', and_true, e0, lcU_rep, ifT]; (with_reducible refine hK _ ?_))
  (refine WpA_seq (WpA_sreg [] [] (by simp) fun K hK => ?_); simp (disch := omega) only [kc, prep1, Nat.reduceAdd, opS_fieldAddr, effR, ty_fld51_1, ty_sz49, updH, Nat.reduceEqDiff, ifF, packT, ty_agg49, opS_len, ty_slice49, ls_len, ofConst, Value.oneCell']; (with_reducible refine hK _ ?_))
  refine WpA_forb (G := MulO A B) (fun g => ⟨[jk, jk, .one (.ptr 2 0 0 0), .one (.ptr 3 0 0 0), .one (.ptr 4 0 0 0), .one (.sl 18 0 0 (A.length + B.length)), jk, jk, jk, jk, jk, jk, jk, jk, jk, jk, jk, jk, jk, jk, slU A, .raw (.int .i64 (A.length : Int)), .raw (.int .i64 (g.i : Int)), jk, jk, jk, jk, jk, jk, jk, jk, jk, jk, jk, jk, jk, jk, jk, jk, jk, jk, jk, jk, jk, jk, jk, jk, jk, jk, jk, jk, jk, jk, jk, jk, jk, jk, jk, jk, jk, jk, jk, jk, jk, jk, jk, jk, jk, jk, jk, jk, jk, jk, jk, jk, jk, jk], Hm [(2, bxZ (decide (a < 0)) A), (3, bxZ (decide (b < 0)) B), (4, bx0), (18, [⟨92, 1, lc fU g.O⟩])]⟩) (fun g => A.length - g.i) ⟨0, List.replicate (A.length + B.length) 0, by omega, by simp, fun x hx => by simp at hx; omega, by simp [natV_rep, natV], fun k h1 h2 => by rw [List.getElem?_replicate, if_pos h2]⟩ ?_ ?_
  · refine Weak_sub ⟨rfl, rfl, rfl, rfl, trivial⟩ ?_
    simp [wkL, okTV, okAV]
  · rintro ⟨i, O, hi, len, lmb, val, zero⟩
    simp only
    by_cases hm : i < A.length
    · obtain ⟨x, hx⟩ := getElem?_of_lt hm
      have hx' := lmb_at hlA hx
      (refine WpA_sreg [] [] (by simp) fun K hK => ?_; simp (disch := omega) only [kc, prep1, slU, Hm, effM, evBin, decT]; (with_reducible refine hK _ ?_))
      refine WpA_seq (WpA_cond rfl (fun _ => WpA_skip ?_) (fun h => by simp at h <;> omega))
      refine WpA_seq (WpA_block ?_)
      (refine WpA_sreg [] [] (by simp) fun K hK => ?_; simp (disch := omega) only [kc, prep1, Nat.reduceAdd, opS_indexAddr, effR, natOf_pos, ty_slice49, ls_get, hx, fU, ty_sz92, packT, ty_agg92]; (with_reducible refine hK _ ?_))
      (refine WpA_sreg [] [] (by simp) fun K hK => ?_; simp (disch := omega) only [kc, prep1, ofConst, Value.oneCell']; (with_reducible refine hK _ ?_))
      (refine WpA_seq (WpA_sreg [] [] (by simp) fun K hK => ?_); simp (disch := omega) only [kc, prep1, Nat.reduceAdd, opS_fieldAddr, effR, ty_fld51_1, ty_sz49, Nat.reduceEqDiff, ifF, packT, ty_agg49, opS_len, ty_slice49, ls_len, ofConst, Value.oneCell']; (with_reducible refine hK _ ?_))
      refine WpA_forb (G := MulI A B i x) (fun g => ⟨[jk, jk, .one (.ptr 2 0 0 0), .one (.ptr 3 0 0 0), .one (.ptr 4 0 0 0), .one (.sl 18 0 0 (A.length + B.length)), .raw (.int .i64 (i : Int)), .raw (.int .u32 (x : Int)), .raw (.int .u64 (g.c : Int)), jk, jk, jk, jk, jk, jk, jk, jk, jk, jk, jk, slU A, .raw (.int .i64 (A.length : Int)), .raw (.int .i64 (i : Int)), jk, jk, jk, jk, jk, slU B, .raw (.int .i64 (B.length : Int)), .raw (.int .i64 (g.j : Int)), jk, jk, jk, jk, jk, jk, jk, jk, jk, jk, jk, jk, jk, jk, jk, jk, jk, jk, jk, jk, jk, jk, jk, jk, jk, jk, jk, jk, jk, jk, jk, jk, jk, jk, jk, jk, jk, jk, jk, jk, jk, jk, jk, jk, jk, jk], Hm [(2, bxZ (decide (a < 0)) A), (3, bxZ (decide (b < 0)) B), (4, bx0), (18, [⟨92, 1, lc fU g.O⟩])]⟩) (fun g => B.length - g.j) ⟨0, O, 0, by omega, len, lmb, by omega, by simpa [natV] using val, zero⟩ ?_ ?_
      · refine Weak_sub ⟨rfl, rfl, rfl, rfl, trivial⟩ ?_
        simp [wkL, okTV, okAV]
      · intro g
        by_cases hn : g.j < B.length
        · obtain ⟨y, hy⟩ := getElem?_of_lt hn
          have hy' := lmb_at hlB hy
          have hlen := g.len
          obtain ⟨o, ho⟩ := getElem?_of_lt (show i + g.j < g.O.length by omega)
          have ho' := lmb_at g.lmb ho
          have hb := mul_bound hx' hy'
          have hgc := g.hc
          obtain ⟨g', q1, q2, q3⟩ := mulI_step g hy ho hm hx' hy'
          have e1 : ((i : Int) + (g.j : Int)).toNat = i + g.j := by omega
          have e2 : (x : Int) * (y : Int) = ((x * y : Nat) : Int) := by simp
          generalize hp : x * y = p at *
          have e3 : IntKind.u32.wrap ((g.c : Int) + ((p : Int) + (o : Int))) = (((g.c + (p + o)) % 4294967296 : Nat) : Int) := by rw [← w32]; congr 1 <;> omega
          have e4 : Int.fdiv ((g.c : Int) + ((p : Int) + (o : Int))) (2 ^ (min 32 IntKind.u64.bits)) = (((g.c + (p + o)) / 4294967296 : Nat) : Int) := by rw [← s32]; congr 1 <;> omega
          (refine WpA_sreg [] [] (by simp) fun K hK => ?_; simp (disch := omega) only [kc, prep1, slU, Hm, effM, evBin, decT]; (with_reducible refine hK _ ?_))
          refine WpA_seq (WpA_cond rfl (fun _ => WpA_skip ?_) (fun h => by simp at h <;> omega))
          refine WpA_seq (WpA_block ?_)
          (refine WpA_sreg [] [] (by simp) fun K hK => ?_; simp (disch := omega) only [kc, prep1, Nat.reduceAdd, opS_indexAddr, effR, natOf_pos, ty_slice49, ls_get, hy, fU, ty_sz92, packT, ty_agg92]; (with_reducible refine hK _ ?_))
          (refine WpA_sreg [] [] (by simp) fun K hK => ?_; simp (disch := omega) only [kc, prep1, Nat.reduceAdd, opS_conv, effM, Tryz.underlying92, ty_int43, wrapU, evBin, e2, wrapI, opS_indexAddr, effR, natOf_pos, e1, ty_slice49, Nat.reduceEqDiff, ifF, ty_sz92, ifT, lc_get, fU, ho, packT, ty_agg92]; (with_reducible refine hK _ ?_))
          (refine WpA_sreg [] [] (by simp) fun K hK => ?_; simp (disch := omega) only [kc, prep1, Nat.reduceAdd, effM, evBin, wrapI, opS_conv, Tryz.underlying43, ty_int92, e3, opS_indexAddr, effR, natOf_pos, e1, ty_slice49, Nat.reduceEqDiff, ifF, ty_sz92, ifT, opS_store, wrS, effD, lc_get, fU, ho, cellsOf, Nat.le_refl, isPure, putCells, lcU_set, killTV, killAV]; (with_reducible refine hK _ ?_))
          ((refine WpA_lreg [] [] (by simp) fun K hK => ?_); simp (disch := omega) only [kc, prep1, Nat.reduceAdd, effM, ofConst, Value.oneCell', evBin, Int.reduceLE, Int.reduceToNat, e4]; (with_reducible refine hK _ ?_))
          show WpA _ _ _ _
          ((refine WpA_lreg [] [] (by simp) fun K hK => ?_); simp (disch := omega) only [kc, prep1, effM, ofConst, Value.oneCell', evBin, wrapI]; (with_reducible refine hK _ ?_))
          refine ⟨g', by omega, Weak_sub ⟨rfl, rfl, rfl, by rw [q2]; rfl, trivial⟩ ?_⟩
          simp [wkL, okTV, okAV, q1, q3]
        · have hgj := g.hj
          have hgc := g.hc
          have hgl := g.len
          obtain ⟨g', q1, q2⟩ := mulI_done hx g hn
          have e1 : ((i : Int) + (B.length : Int)).toNat = i + B.length := by omega
          have e3 : IntKind.u32.wrap (g.c : Int) = (g.c : Int) := by rw [w32]; omega
          (refine WpA_sreg [] [] (by simp) fun K hK => ?_; simp (disch := omega) only [kc, prep1, slU, Hm, effM, evBin, decF]; (with_reducible refine hK _ ?_))
          refine WpA_seq (WpA_cond rfl (fun h => by simp at h <;> omega) (fun _ => WpA_exit ?_))
          show WpA _ _ _ _
          have hz := g.zero (i + B.length) (Nat.le_refl _) (by omega)
          ((refine WpA_lreg [] [] (by simp) fun K hK => ?_); simp (disch := omega) only [kc, prep1, Nat.reduceAdd, opS_fieldAddr, effR, ty_fld51_1, ty_sz49, Nat.reduceEqDiff, ifF, packT, ty_agg49, opS_len, ty_slice49, ls_len, effM, evBin, wrapI, opS_conv, Tryz.underlying43, ty_int92, e3, opS_indexAddr, natOf_pos, e1, ty_sz92, ifT, opS_store, wrS, effD, lc_get, fU, hz, cellsOf, Nat.le_refl, isPure, putCells, lcU_set, killTV, killAV]; (with_reducible refine hK _ ?_))
          show WpA _ _ _ _
          ((refine WpA_lreg [] [] (by simp) fun K hK => ?_); simp (disch := omega) only [kc, prep1, effM, ofConst, Value.oneCell', evBin, wrapI]; (with_reducible refine hK _ ?_))
          refine ⟨g', by omega, Weak_sub ⟨rfl, rfl, rfl, by rw [q2]; rfl, trivial⟩ ?_⟩
          simp [wkL, okTV, okAV, q1]
    · have hfin : natV O = a.natAbs * b.natAbs := by
        have : i = A.length := by omega
        rw [val, this, List.take_length, vA, vB]
      have h4 := make_C (!(decide (a < 0) == decide (b < 0))) O lmb (by omega)
      rw [hfin, mul_sgn] at h4
      (refine WpA_sreg [] [] (by simp) fun K hK => ?_; simp (disch := omega) only [kc, prep1, slU, Hm, effM, evBin, decF]; (with_reducible refine hK _ ?_))
      refine WpA_seq (WpA_cond rfl (fun h => by simp at h <;> omega) (fun _ => WpA_exit ?_))
      show WpA _ _ _ _
      refine WpA.weak (Weak_fz 18 (fzOk_one rfl)) ?_
      have eT : List.take (A.length + B.length) O = O := List.take_of_length_le (by omega)
      simp (disch := omega) only [kc, tZ, fzTV, fzAV, Nat.reduceEqDiff, ifT, ifF, lc_take, eT, lc_cellF]
      (refine WpA_sreg [⟨6, _, _, _, h4⟩] [] (by simp) fun K hK => ?_; simp (disch := omega) only [kc, slU, tZ, CItem.a, prep1, Nat.reduceAdd, opS_fieldAddr, effR, ty_fld51_0, ty_sz4, Nat.add_zero, updH, Nat.reduceEqDiff, ifF, packT, ty_agg4, effM, evBin, ty_bool4, opS_call, newS, effA, List.find?_cons, evAll, norm, CallRes.plain, rawTV, rawAV, normOk, noRefTV, noRefAV, renTV, renAV, opS_store, wrS, effD, ty_sz51, cellsOf, Nat.le_refl, isPure, ifT, putCells, killTV, killAV]; (with_reducible refine hK _ ?_))
      (refine WpA_ret ⟨.inr rfl, ret_now rfl ?_ rfl⟩; simp (disch := omega) only [kc, resA, Tryz.results28, resOne, updH, Nat.reduceEqDiff, ifF, packT, ty_sz51, ty_agg51, Nat.reduceAdd, Nat.le_refl])
end Go.Proofs.YtennjcjjegbhgaaGreat
namespace Go.Proofs.YtennjcjjegbhgaaGreat
open Go.RowKit
def dblL : List Nat → Nat → List Nat
  | [], b => [b]
  | x :: l, b => (2 * x + b) % 4294967296 :: dblL l (x / 2147483648)
theorem natV_dblL : ∀ (l : List Nat) (b : Nat), Lmb l → b ≤ 1 → natV (dblL l b) = 2 * natV l + b
  | [], b, _, _ => by simp [dblL, natV]
  | x :: l, b, hl, hb => by
    rw [lmb_cons] at hl
    have hx := hl.1
    simp only [dblL, natV, natV_dblL l (x / 2147483648) hl.2 (by omega)]; omega
theorem lmb_dblL : ∀ (l : List Nat) (b : Nat), Lmb l → b ≤ 1 → Lmb (dblL l b)
  | [], b, _, hb => by simp [dblL, Lmb]; omega
  | x :: l, b, hl, hb => by
    rw [lmb_cons] at hl
    have hx := hl.1
    rw [dblL, lmb_cons]
    exact ⟨Nat.mod_lt _ (by omega), lmb_dblL l _ hl.2 (by omega)⟩
theorem dblL_len : ∀ (l : List Nat) (b : Nat), (dblL l b).length = l.length + 1
  | [], b => rfl
  | x :: l, b => by simp [dblL, dblL_len l]
theorem or_low (a b n : Nat) (h : b < 2 ^ n) : (a * 2 ^ n) ||| b = a * 2 ^ n + b := by
  have := Nat.shiftLeft_add_eq_or_of_lt h a
  rw [Nat.shiftLeft_eq] at this
  exact this.symm
theorem or_high (a b n : Nat) (h : b < 2 ^ n) : b ||| (a * 2 ^ n) = a * 2 ^ n + b := by rw [Nat.or_comm, or_low a b n h]
theorem or32 (a b : Nat) (ha : a < 4294967296) (hb : b < 4294967296) : IntKind.u32.wrap (((BitVec.ofInt IntKind.u32.bits (a : Int) ||| BitVec.ofInt IntKind.u32.bits (b : Int)).toNat : Nat) : Int) = ((a ||| b : Nat) : Int) := by
  rw [w32]
  show (((BitVec.ofInt 32 (a : Int) ||| BitVec.ofInt 32 (b : Int)).toNat % 4294967296 : Nat) : Int) = _
  rw [BitVec.toNat_or]
  have e : ∀ x : Nat, x < 4294967296 → (BitVec.ofInt 32 (x : Int)).toNat = x := fun x hx => by rw [BitVec.toNat_ofInt]; show ((x : Int) % 4294967296).toNat = x; omega
  rw [e a ha, e b hb, Nat.mod_eq_of_lt]
  exact Nat.or_lt_two_pow (n := 32) ha hb
theorem or64 (a b : Nat) (ha : a < 18446744073709551616) (hb : b < 18446744073709551616) : IntKind.u64.wrap (((BitVec.ofInt IntKind.u64.bits (a : Int) ||| BitVec.ofInt IntKind.u64.bits (b : Int)).toNat : Nat) : Int) = ((a ||| b : Nat) : Int) := by
  rw [IntKind.wrap_u64]
  show ((BitVec.ofInt 64 (a : Int) ||| BitVec.ofInt 64 (b : Int)).toNat : Int) % _ = _
  rw [BitVec.toNat_or]
  have e : ∀ x : Nat, x < 18446744073709551616 → (BitVec.ofInt 64 (x : Int)).toNat = x := fun x hx => by rw [BitVec.toNat_ofInt]; show ((x : Int) % 18446744073709551616).toNat = x; omega
  rw [e a ha, e b hb]
  have := Nat.or_lt_two_pow (n := 64) ha hb
  generalize a ||| b = c at *
  omega
theorem and32 (a b : Nat) (ha : a < 4294967296) (hb : b < 4294967296) : IntKind.u32.wrap (((BitVec.ofInt IntKind.u32.bits (a : Int) &&& BitVec.ofInt IntKind.u32.bits (b : Int)).toNat : Nat) : Int) = ((a &&& b : Nat) : Int) := by
  rw [w32]
  show (((BitVec.ofInt 32 (a : Int) &&& BitVec.ofInt 32 (b : Int)).toNat % 4294967296 : Nat) : Int) = _
  rw [BitVec.toNat_and]
  have e : ∀ x : Nat, x < 4294967296 → (BitVec.ofInt 32 (x : Int)).toNat = x := fun x hx => by rw [BitVec.toNat_ofInt]; show ((x : Int) % 4294967296).toNat = x; omega
  rw [e a ha, e b hb, Nat.mod_eq_of_lt]
  exact Nat.lt_of_le_of_lt Nat.and_le_left ha
structure DblG (l : List Nat) (b : Nat) where
  i : Nat
  o : List Nat
  c : Nat
  hi : i ≤ l.length
  hc : c ≤ 1
  ho : o.length = i
  h : o ++ dblL (l.drop i) c = dblL l b
set_option maxRecDepth 100000 in
set_option maxHeartbeats 2000000 in
theorem double_C (l : List Nat) (b : Nat) (lm : Lmb l) (hb : b ≤ 1) (bl : l.length ≤ 1073741824) : CallC Tryz.prog 189 [slU l, .raw (.int .u32 (b : Int))] ⟨[], slU (dblL l b)⟩ := by
  refine callC_of Tryz.func189 rfl (by kernel_rfl) ?_; rw [Tryz.ntmps189]
  (refine WpA_sreg [] [] (by simp) fun K hK => ?_; simp (disch := omega) only [kc, prep1, slU, Nat.reduceAdd, List.replicate, ofConst, Value.oneCell']; (with_reducible refine hK _ ?_))
  (refine WpA_sreg [] [] (by simp) fun K hK => ?_; simp (disch := omega) only [kc, prep1, ofConst, Value.oneCell']; (with_reducible refine hK _ ?_))
  (refine WpA_seq (WpA_sreg [] [] (by simp) fun K hK => ?_); simp (disch := omega) only [kc, prep1, Nat.reduceAdd, opS_len, effR, ty_slice49, ls_len, ofConst, Value.oneCell']; (with_reducible refine hK _ ?_))
  refine WpA_forb (G := DblG l b) (fun g => ⟨[slU l, .raw (.int .u32 (g.c : Int)), jk, jk, .raw (.slice none 0 0), .one (.sl 20 0 0 g.o.length), jk, jk, slU l, .raw (.int .i64 (l.length : Int)), .raw (.int .i64 (g.i : Int)), jk, jk, jk, jk, jk, jk, jk, jk, jk, jk, jk, jk, jk, jk, jk, jk, jk], Hm [(20, [⟨92, 1, lc fU g.o⟩])]⟩) (fun g => l.length - g.i) ⟨0, [], b, by omega, hb, rfl, rfl⟩ ?_ ?_
  · refine (Weak_nil (k := 5) (d := 20) 92 1 (by omega) rfl rfl).trans (Weak_sub ⟨rfl, trivial⟩ ?_)
    simp [wkL, okTV, okAV]
  · rintro ⟨i, o, c, hi, hc, ho, h⟩
    simp only
    by_cases hm : i < l.length
    · obtain ⟨a, ha⟩ := getElem?_of_lt hm
      have ha' := lmb_at lm ha
      have e1 : IntKind.u32.wrap ((a : Int) * 2 ^ min 1 IntKind.u32.bits) = ((2 * a % 4294967296 : Nat) : Int) := by
        rw [← w32]; congr 1; show (a : Int) * 2 = _; omega
      have e2 := or32 (2 * a % 4294967296) c (by omega) (by omega)
      have e3 : (2 * a % 4294967296) ||| c = (2 * a + c) % 4294967296 := by
        have := or_low (a % 2147483648) c 1 (by omega)
        rw [show 2 * a % 4294967296 = a % 2147483648 * 2 ^ 1 by omega, this]; omega
      rw [e3] at e2
      have e4 : Int.fdiv (a : Int) (2 ^ (min 31 IntKind.u32.bits)) = ((a / 2147483648 : Nat) : Int) := by
        show Int.fdiv (a : Int) 2147483648 = _
        rw [Int.fdiv_eq_ediv_of_nonneg _ (by omega)]; omega
      (refine WpA_sreg [] [] (by simp) fun K hK => ?_; simp (disch := omega) only [kc, prep1, slU, Hm, effM, evBin, decT]; (with_reducible refine hK _ ?_))
      refine WpA_seq (WpA_cond rfl (fun _ => WpA_skip ?_) (fun h => by simp at h <;> omega))
      refine WpA_seq (WpA_block ?_)
      (refine WpA_sreg [] [] (by simp) fun K hK => ?_; simp (disch := omega) only [kc, prep1, Nat.reduceAdd, opS_indexAddr, effR, natOf_pos, ty_slice49, ls_get, ha, fU, ty_sz92, packT, ty_agg92]; (with_reducible refine hK _ ?_))
      (refine WpA_sreg [] [] (by simp) fun K hK => ?_; simp (disch := omega) only [kc, prep1, Nat.reduceAdd, effM, ofConst, Value.oneCell', evBin, Int.reduceLE, Int.reduceToNat, e1, e2, opS_buildSlice, newS, effA, ty_slice49, ty_zero92, ty_sz92, litA, cellsOf, isPure, Nat.reduceMul, Nat.reduceLeDiff, List.contains_nil, unP, ifT, opS_append, appS, effD, newsOf, ty_by92, lc_allp, lc_len, allcons, allnil, and_true, killO, lc_kill, lcU_snoc, wrS, killTV, killAV]; (with_reducible refine hK _ ?_))
      ((refine WpA_lreg [] [] (by simp) fun K hK => ?_); simp (disch := omega) only [kc, prep1, Nat.reduceAdd, effM, ofConst, Value.oneCell', evBin, Int.reduceLE, Int.reduceToNat, e4]; (with_reducible refine hK _ ?_))
      show WpA _ _ _ _
      ((refine WpA_lreg [] [] (by simp) fun K hK => ?_); simp (disch := omega) only [kc, prep1, effM, ofConst, Value.oneCell', evBin, wrapI]; (with_reducible refine hK _ ?_))
      refine ⟨⟨i + 1, o ++ [(2 * a + c) % 4294967296], a / 2147483648, by omega, by omega, by simp [ho], ?_⟩, by simp only; omega, Weak_sub ⟨rfl, trivial⟩ ?_⟩
      · rw [← h, drop_at ha, dblL, List.append_assoc]; rfl
      · simp [wkL, okTV, okAV]
    · (refine WpA_sreg [] [] (by simp) fun K hK => ?_; simp (disch := omega) only [kc, prep1, slU, Hm, effM, evBin, decF]; (with_reducible refine hK _ ?_))
      refine WpA_seq (WpA_cond rfl (fun h => by simp at h <;> omega) (fun _ => WpA_exit ?_))
      show WpA _ _ _ _
      (refine WpA_sreg [] [] (by simp) fun K hK => ?_; simp (disch := omega) only [kc, prep1, Nat.reduceAdd, opS_buildSlice, newS, effA, ty_slice49, ty_zero92, ty_sz92, litA, cellsOf, isPure, Nat.reduceMul, Nat.reduceLeDiff, List.contains_nil, unP, ifT, opS_append, appS, effD, newsOf, ty_by92, lc_allp, lc_len, allcons, allnil, and_true, killO, lc_kill, lcU_snoc, wrS, killTV, killAV]; (with_reducible refine hK _ ?_))
      have hfin : dblL l b = o ++ [c] := by rw [← h, drop_out (by omega : l.length ≤ i), dblL]
      (refine WpA_ret ⟨.inr rfl, ret_fz 20 (fzOk_one rfl) ?_ rfl⟩; simp (disch := omega) only [kc, resA, Tryz.results189, resOne, fzTV, fzAV, updH, ifT, lc_take, lc_cellF, slU])
      simp only [hfin]
      rw [List.take_of_length_le (by simp)]
structure LowG (l : List Nat) where
  i : Nat
  u : Nat
  hi : i ≤ l.length ∧ i ≤ 2
  hu : u = natV (l.take i)
theorem natV_lt_len' {l : List Nat} (h : Lmb l) (k : Nat) : natV (l.take k) < 4294967296 ^ k := by
  have h1 : Lmb (l.take k) := fun a ha => h a (List.mem_of_mem_take ha)
  have h2 := natV_lt h1
  exact Nat.lt_of_lt_of_le h2 (Nat.pow_le_pow_right (by omega) (by rw [List.length_take]; omega))
set_option maxRecDepth 100000 in
set_option maxHeartbeats 2000000 in
theorem low_C (l : List Nat) (lm : Lmb l) (bl : l.length ≤ 1073741824) : CallC Tryz.prog 131 [slU l] ⟨[], .raw (.int .u64 (natV (l.take 2) : Nat))⟩ := by
  refine callC_of Tryz.func131 rfl (by kernel_rfl) ?_; rw [Tryz.ntmps131]
  (refine WpA_sreg [] [] (by simp) fun K hK => ?_; simp (disch := omega) only [kc, prep1, slU, List.replicate, ofConst, Value.oneCell']; (with_reducible refine hK _ ?_))
  (refine WpA_sreg [] [] (by simp) fun K hK => ?_; simp (disch := omega) only [kc, prep1, ofConst, Value.oneCell']; (with_reducible refine hK _ ?_))
  (refine WpA_seq (WpA_sreg [] [] (by simp) fun K hK => ?_); simp (disch := omega) only [kc, prep1, ofConst, Value.oneCell']; (with_reducible refine hK _ ?_))
  refine WpA_forb (G := LowG l) (fun g => ⟨[slU l, jk, .raw (.int .u64 0), .raw (.int .u64 (g.u : Int)), .raw (.int .i64 (g.i : Int)), jk, jk, jk, jk, jk, jk, jk, jk, jk, jk, jk, jk, jk, jk, jk, jk, jk, jk, jk, jk, jk], Hm []⟩) (fun g => l.length - g.i) ⟨0, 0, ⟨by omega, by omega⟩, rfl⟩ ?_ ?_
  · refine Weak_sub trivial ?_
    simp [wkL, okTV, okAV]
  · rintro ⟨i, u, hi, hu⟩
    simp only
    have hlt := natV_lt_len' lm i
    rw [← hu] at hlt
    by_cases hm : i < l.length ∧ i < 2
    · obtain ⟨a, ha⟩ := getElem?_of_lt hm.1
      have ha' := lmb_at lm ha
      have hm2 := hm.2
      have hm1 := hm.1
      have hu2 := natV_take_succ ha
      rw [← hu] at hu2
      (refine WpA_seq (WpA_sreg [] [] (by simp) fun K hK => ?_); simp (disch := omega) only [kc, prep1, Nat.reduceAdd, slU, Hm, opS_len, effR, ty_slice49, ls_len, effM, evBin, decT, stS_guard, ofConst, Value.oneCell', ifT, opS_pick]; (with_reducible refine hK _ ?_))
      refine WpA_cond rfl (fun _ => WpA_skip ?_) (fun h => by simp at h <;> omega)
      refine WpA_seq (WpA_block ?_)
      have hi2 : i = 0 ∨ i = 1 := by omega
      rcases hi2 with rfl | rfl
      · have e1 : IntKind.u64.wrap ((a : Int) * 2 ^ min (32 * ((0 : Nat) : Int)).toNat IntKind.u64.bits) = (a : Int) := by
          rw [IntKind.wrap_u64]; show ((a : Int) * 1) % _ = _; omega
        have hu0 : u = 0 := by simpa [natV] using hu
        have e2 := or64 u a (by omega) (by omega)
        rw [hu0, Nat.zero_or, ← hu0] at e2
        ((refine WpA_lreg [] [] (by simp) fun K hK => ?_); simp (disch := omega) only [kc, prep1, Nat.reduceAdd, opS_indexAddr, effR, natOf_pos, ty_slice49, ls_get, ha, fU, ty_sz92, packT, ty_agg92, opS_conv, effM, Tryz.underlying92, ty_int43, wrapU, ofConst, Value.oneCell', evBin, wrapI, e1, ifT, e2]; (with_reducible refine hK _ ?_))
        show WpA _ _ _ _
        ((refine WpA_lreg [] [] (by simp) fun K hK => ?_); simp (disch := omega) only [kc, prep1, Nat.reduceAdd, effM, ofConst, Value.oneCell', evBin, wrapI]; (with_reducible refine hK _ ?_))
        refine ⟨⟨1, a, ⟨by omega, by omega⟩, by rw [hu2, hu0]; simp⟩, by simp only; omega, Weak_sub trivial ?_⟩
        simp [wkL, okTV, okAV]
      · have e1 : IntKind.u64.wrap ((a : Int) * 2 ^ min (32 * ((1 : Nat) : Int)).toNat IntKind.u64.bits) = ((a * 4294967296 : Nat) : Int) := by
          rw [IntKind.wrap_u64]; show ((a : Int) * 4294967296) % _ = _; omega
        simp only [Nat.pow_one] at hlt
        have e2 := or64 u (a * 4294967296) (by omega) (by omega)
        rw [show a * 4294967296 = a * 2 ^ 32 from rfl, or_high _ _ _ hlt, show a * 2 ^ 32 = a * 4294967296 from rfl] at e2
        ((refine WpA_lreg [] [] (by simp) fun K hK => ?_); simp (disch := omega) only [kc, prep1, Nat.reduceAdd, opS_indexAddr, effR, natOf_pos, ty_slice49, ls_get, ha, fU, ty_sz92, packT, ty_agg92, opS_conv, effM, Tryz.underlying92, ty_int43, wrapU, ofConst, Value.oneCell', evBin, wrapI, e1, ifT, e2]; (with_reducible refine hK _ ?_))
        show WpA _ _ _ _
        ((refine WpA_lreg [] [] (by simp) fun K hK => ?_); simp (disch := omega) only [kc, prep1, Nat.reduceAdd, effM, ofConst, Value.oneCell', evBin, wrapI]; (with_reducible refine hK _ ?_))
        refine ⟨⟨2, a * 4294967296 + u, ⟨by omega, by omega⟩, by rw [hu2]; omega⟩, by simp only; omega, Weak_sub trivial ?_⟩
        simp [wkL, okTV, okAV]
    · have hfin : u = natV (l.take 2) := by
        rw [hu]
        by_cases h2 : i = 2
        · rw [h2]
        · rw [List.take_of_length_le (by omega), List.take_of_length_le (by omega)]
      rw [← hfin]
      by_cases h3 : i < l.length
      · (refine WpA_seq (WpA_sreg [] [] (by simp) fun K hK => ?_); simp (disch := omega) only [kc, prep1, Nat.reduceAdd, slU, Hm, opS_len, effR, ty_slice49, ls_len, effM, evBin, decT, stS_guard, ofConst, Value.oneCell', ifT, decF, opS_pick]; (with_reducible refine hK _ ?_))
        refine WpA_cond rfl (fun h => by simp at h <;> omega) (fun _ => WpA_exit ?_)
        show WpA _ _ _ _
        (refine WpA_sreg [] [] (by simp) fun K hK => ?_; simp (disch := omega) only [kc, prep1]; (with_reducible refine hK _ ?_))
        (refine WpA_ret ⟨.inr rfl, ret_now rfl ?_ rfl⟩; simp (disch := omega) only [resA, Tryz.results131, resOne, List.getElem?_cons_succ, List.getElem?_cons_zero])
      · (refine WpA_seq (WpA_sreg [] [] (by simp) fun K hK => ?_); simp (disch := omega) only [kc, prep1, Nat.reduceAdd, slU, Hm, opS_len, effR, ty_slice49, ls_len, effM, evBin, decF, stS_guard, ofConst, Value.oneCell', Option.map_none, opS_pick]; (with_reducible refine hK _ ?_))
        refine WpA_cond rfl (fun h => by simp at h <;> omega) (fun _ => WpA_exit ?_)
        show WpA _ _ _ _
        (refine WpA_sreg [] [] (by simp) fun K hK => ?_; simp (disch := omega) only [kc, prep1]; (with_reducible refine hK _ ?_))
        (refine WpA_ret ⟨.inr rfl, ret_now rfl ?_ rfl⟩; simp (disch := omega) only [resA, Tryz.results131, resOne, List.getElem?_cons_succ, List.getElem?_cons_zero])
end Go.Proofs.YtennjcjjegbhgaaGreat
namespace Go.Proofs.YtennjcjjegbhgaaGreat
open Go.RowKit
def i64R (z : Int) : TV := if -9223372036854775808 ≤ z ∧ z ≤ 9223372036854775807 then .tup [(false, [.p (.raw (.int .i64 z))]), (false, [.p (.raw (.bool true))])] else .tup [(false, [.p (.raw (.int .i64 0))]), (false, [.p (.raw (.bool false))])]
theorem limbs_long {n : Nat} (h : 2 < (limbs n).length) : 18446744073709551616 ≤ n := by
  have h1 := can_ge (can_limbs n) (by intro h0; rw [h0] at h; simp at h)
  rw [natV_limbs] at h1
  have h2 : 4294967296 ^ 2 ≤ 4294967296 ^ ((limbs n).length - 1) := Nat.pow_le_pow_right (by omega) (by omega)
  omega
theorem limbs_short {n : Nat} (h : (limbs n).length ≤ 2) : n < 18446744073709551616 := by
  have h1 := natV_lt (lmb_limbs n)
  rw [natV_limbs] at h1
  have h2 : 4294967296 ^ (limbs n).length ≤ 4294967296 ^ 2 := Nat.pow_le_pow_right (by omega) h
  omega
set_option maxRecDepth 100000 in
set_option maxHeartbeats 2000000 in
theorem Int64_C (z : Int) (h : Bg z) : CallC Tryz.prog 90 [tZ z] ⟨[], i64R z⟩ := by
  have ht := trim_C (limbs z.natAbs) h.len
  rw [trim_id] at ht
  have hw := low_C (limbs z.natAbs) (lmb_limbs _) h.len
  have hl := h.len
  by_cases h2 : 2 < (limbs z.natAbs).length
  · have hb := limbs_long h2
    rw [show i64R z = .tup [(false, [.p (.raw (.int .i64 0))]), (false, [.p (.raw (.bool false))])] by unfold i64R; rw [if_neg (by omega)]]
    refine callC_of Tryz.func90 rfl (by kernel_rfl) ?_; rw [Tryz.ntmps90]
    (refine WpA_sreg [] [] (by simp) fun K hK => ?_; simp (disch := omega) only [kc, prep1, Nat.reduceAdd, tZ, List.replicate, opS_box, newS, effA, cellsOf, isPure, ifT, ofConst, Value.oneCell']; (with_reducible refine hK _ ?_))
    (refine WpA_sreg [⟨2, _, _, _, ht⟩] [] (by simp) fun K hK => ?_; simp (disch := omega) only [kc, slU, CItem.a, prep1, Nat.reduceAdd, opS_fieldAddr, effR, ty_fld51_1, ty_sz49, updH, packT, ty_agg49, opS_call, newS, effA, List.find?_cons, evAll, norm, CallRes.plain, rawTV, rawAV, normOk, noRefTV, noRefAV, renTV, renAV]; (with_reducible refine hK _ ?_))
    (refine WpA_sreg [⟨1, _, _, _, hw⟩] [] (by simp) fun K hK => ?_; simp (disch := omega) only [kc, slU, CItem.a, prep1, Nat.reduceAdd, opS_call, newS, effA, List.find?_cons, evAll, norm, CallRes.plain, rawTV, rawAV, normOk, noRefTV, noRefAV, renTV, renAV]; (with_reducible refine hK _ ?_))
    refine WpA_seq (WpA_block ?_)
    (refine WpA_sreg [] [] (by simp) fun K hK => ?_; simp (disch := omega) only [kc, prep1, Nat.reduceAdd, opS_len, effR, ty_slice49, ls_len, effM, ofConst, Value.oneCell', evBin, decT]; (with_reducible refine hK _ ?_))
    refine WpA_cond rfl (fun _ => ?_) (fun h => by simp at h <;> omega)
    (refine WpA_sreg [] [] (by simp) fun K hK => ?_; simp (disch := omega) only [kc, prep1, ofConst, Value.oneCell']; (with_reducible refine hK _ ?_))
    (refine WpA_ret ⟨.inr rfl, ret_now rfl ?_ rfl⟩; simp (disch := omega) only [resA, Tryz.results90, resL, resOne, List.getElem?_cons_succ, List.getElem?_cons_zero, Option.bind_some, tvPair, Option.map_some])
  · have hb := limbs_short (n := z.natAbs) (by omega)
    rw [List.take_of_length_le (by omega), natV_limbs] at hw
    by_cases hz : z < 0
    · have e1 : IntKind.i64.wrap (IntKind.u64.wrap (0 - (z.natAbs : Int))) = z ∨ 9223372036854775808 < z.natAbs := by
        rw [IntKind.wrap_u64]
        by_cases hz2 : z.natAbs ≤ 9223372036854775808
        · left
          have : (0 - (z.natAbs : Int)) % 18446744073709551616 = 18446744073709551616 + z := by omega
          rw [this, IntKind.wrap_i64]
          omega
        · right; omega
      by_cases hz2 : z.natAbs ≤ 9223372036854775808
      · replace e1 := e1.resolve_right (by omega)
        rw [show i64R z = .tup [(false, [.p (.raw (.int .i64 z))]), (false, [.p (.raw (.bool true))])] by unfold i64R; rw [if_pos (by omega)]]
        refine callC_of Tryz.func90 rfl (by kernel_rfl) ?_; rw [Tryz.ntmps90]
        (refine WpA_sreg [] [] (by simp) fun K hK => ?_; simp (disch := omega) only [kc, prep1, Nat.reduceAdd, tZ, decT, List.replicate, opS_box, newS, effA, cellsOf, isPure, ifT, ofConst, Value.oneCell']; (with_reducible refine hK _ ?_))
        (refine WpA_sreg [⟨2, _, _, _, ht⟩] [] (by simp) fun K hK => ?_; simp (disch := omega) only [kc, slU, CItem.a, prep1, Nat.reduceAdd, opS_fieldAddr, effR, ty_fld51_1, ty_sz49, updH, packT, ty_agg49, opS_call, newS, effA, List.find?_cons, evAll, norm, CallRes.plain, rawTV, rawAV, normOk, noRefTV, noRefAV, renTV, renAV]; (with_reducible refine hK _ ?_))
        (refine WpA_sreg [⟨1, _, _, _, hw⟩] [] (by simp) fun K hK => ?_; simp (disch := omega) only [kc, slU, CItem.a, prep1, Nat.reduceAdd, opS_call, newS, effA, List.find?_cons, evAll, norm, CallRes.plain, rawTV, rawAV, normOk, noRefTV, noRefAV, renTV, renAV]; (with_reducible refine hK _ ?_))
        refine WpA_seq (WpA_block ?_)
        (refine WpA_sreg [] [] (by simp) fun K hK => ?_; simp (disch := omega) only [kc, prep1, Nat.reduceAdd, opS_len, effR, ty_slice49, ls_len, effM, ofConst, Value.oneCell', evBin, decF]; (with_reducible refine hK _ ?_))
        refine WpA_cond rfl (fun h => by simp at h <;> omega) (fun _ => ?_)
        (refine WpA_sreg [] [] (by simp) fun K hK => ?_; simp (disch := omega) only [kc, prep1, Nat.reduceAdd, opS_fieldAddr, effR, ty_fld51_0, ty_sz4, Nat.add_zero, updH, packT, ty_agg4, stS_guard, effM, ofConst, Value.oneCell', ifT, evBin, decT, opS_pick]; (with_reducible refine hK _ ?_))
        refine WpA_cond rfl (fun _ => ?_) (fun h => by simp at h <;> omega)
        (refine WpA_sreg [] [] (by simp) fun K hK => ?_; simp (disch := omega) only [kc, prep1, Nat.reduceAdd, opS_un, effM, evUn, opS_conv, Tryz.underlying43, ty_int2, e1, ofConst, Value.oneCell']; (with_reducible refine hK _ ?_))
        (refine WpA_ret ⟨.inr rfl, ret_now rfl ?_ rfl⟩; simp (disch := omega) only [resA, Tryz.results90, resL, resOne, List.getElem?_cons_succ, List.getElem?_cons_zero, Option.bind_some, tvPair, Option.map_some])
      · rw [show i64R z = .tup [(false, [.p (.raw (.int .i64 0))]), (false, [.p (.raw (.bool false))])] by unfold i64R; rw [if_neg (by omega)]]
        refine callC_of Tryz.func90 rfl (by kernel_rfl) ?_; rw [Tryz.ntmps90]
        (refine WpA_sreg [] [] (by simp) fun K hK => ?_; simp (disch := omega) only [kc, prep1, Nat.reduceAdd, tZ, decT, List.replicate, opS_box, newS, effA, cellsOf, isPure, ifT, ofConst, Value.oneCell']; (with_reducible refine hK _ ?_))
        (refine WpA_sreg [⟨2, _, _, _, ht⟩] [] (by simp) fun K hK => ?_; simp (disch := omega) only [kc, slU, CItem.a, prep1, Nat.reduceAdd, opS_fieldAddr, effR, ty_fld51_1, ty_sz49, updH, packT, ty_agg49, opS_call, newS, effA, List.find?_cons, evAll, norm, CallRes.plain, rawTV, rawAV, normOk, noRefTV, noRefAV, renTV, renAV]; (with_reducible refine hK _ ?_))
        (refine WpA_sreg [⟨1, _, _, _, hw⟩] [] (by simp) fun K hK => ?_; simp (disch := omega) only [kc, slU, CItem.a, prep1, Nat.reduceAdd, opS_call, newS, effA, List.find?_cons, evAll, norm, CallRes.plain, rawTV, rawAV, normOk, noRefTV, noRefAV, renTV, renAV]; (with_reducible refine hK _ ?_))
        refine WpA_seq (WpA_block ?_)
        (refine WpA_sreg [] [] (by simp) fun K hK => ?_; simp (disch := omega) only [kc, prep1, Nat.reduceAdd, opS_len, effR, ty_slice49, ls_len, effM, ofConst, Value.oneCell', evBin, decF]; (with_reducible refine hK _ ?_))
        refine WpA_cond rfl (fun h => by simp at h <;> omega) (fun _ => ?_)
        (refine WpA_sreg [] [] (by simp) fun K hK => ?_; simp (disch := omega) only [kc, prep1, Nat.reduceAdd, opS_fieldAddr, effR, ty_fld51_0, ty_sz4, Nat.add_zero, updH, packT, ty_agg4, stS_guard, effM, ofConst, Value.oneCell', ifT, evBin, decF, opS_pick]; (with_reducible refine hK _ ?_))
        refine WpA_cond rfl (fun h => by simp at h <;> omega) (fun _ => ?_)
        (refine WpA_sreg [] [] (by simp) fun K hK => ?_; simp (disch := omega) only [kc, prep1, Nat.reduceAdd, opS_fieldAddr, effR, ty_fld51_0, ty_sz4, Nat.add_zero, updH, packT, ty_agg4, opS_un, effM, evUn, stS_guard, ofConst, Value.oneCell', Option.map_none, opS_pick]; (with_reducible refine hK _ ?_))
        refine WpA_cond rfl (fun h => by simp at h <;> omega) (fun _ => WpA_skip ?_)
        show WpA _ _ _ _
        (refine WpA_sreg [] [] (by simp) fun K hK => ?_; simp (disch := omega) only [kc, prep1, ofConst, Value.oneCell']; (with_reducible refine hK _ ?_))
        (refine WpA_ret ⟨.inr rfl, ret_now rfl ?_ rfl⟩; simp (disch := omega) only [resA, Tryz.results90, resL, resOne, List.getElem?_cons_succ, List.getElem?_cons_zero, Option.bind_some, tvPair, Option.map_some])
    · by_cases hz2 : z.natAbs < 9223372036854775808
      · have e1 : IntKind.i64.wrap (z.natAbs : Int) = z := by rw [IntKind.wrap_i64]; omega
        rw [show i64R z = .tup [(false, [.p (.raw (.int .i64 z))]), (false, [.p (.raw (.bool true))])] by unfold i64R; rw [if_pos (by omega)]]
        refine callC_of Tryz.func90 rfl (by kernel_rfl) ?_; rw [Tryz.ntmps90]
        (refine WpA_sreg [] [] (by simp) fun K hK => ?_; simp (disch := omega) only [kc, prep1, Nat.reduceAdd, tZ, decF, List.replicate, opS_box, newS, effA, cellsOf, isPure, ifT, ofConst, Value.oneCell']; (with_reducible refine hK _ ?_))
        (refine WpA_sreg [⟨2, _, _, _, ht⟩] [] (by simp) fun K hK => ?_; simp (disch := omega) only [kc, slU, CItem.a, prep1, Nat.reduceAdd, opS_fieldAddr, effR, ty_fld51_1, ty_sz49, updH, packT, ty_agg49, opS_call, newS, effA, List.find?_cons, evAll, norm, CallRes.plain, rawTV, rawAV, normOk, noRefTV, noRefAV, renTV, renAV]; (with_reducible refine hK _ ?_))
        (refine WpA_sreg [⟨1, _, _, _, hw⟩] [] (by simp) fun K hK => ?_; simp (disch := omega) only [kc, slU, CItem.a, prep1, Nat.reduceAdd, opS_call, newS, effA, List.find?_cons, evAll, norm, CallRes.plain, rawTV, rawAV, normOk, noRefTV, noRefAV, renTV, renAV]; (with_reducible refine hK _ ?_))
        refine WpA_seq (WpA_block ?_)
        (refine WpA_sreg [] [] (by simp) fun K hK => ?_; simp (disch := omega) only [kc, prep1, Nat.reduceAdd, opS_len, effR, ty_slice49, ls_len, effM, ofConst, Value.oneCell', evBin, decF]; (with_reducible refine hK _ ?_))
        refine WpA_cond rfl (fun h => by simp at h <;> omega) (fun _ => ?_)
        (refine WpA_sreg [] [] (by simp) fun K hK => ?_; simp (disch := omega) only [kc, prep1, Nat.reduceAdd, opS_fieldAddr, effR, ty_fld51_0, ty_sz4, Nat.add_zero, updH, packT, ty_agg4, stS_guard, effM, ofConst, Value.oneCell', Option.map_none, opS_pick]; (with_reducible refine hK _ ?_))
        refine WpA_cond rfl (fun h => by simp at h <;> omega) (fun _ => ?_)
        (refine WpA_sreg [] [] (by simp) fun K hK => ?_; simp (disch := omega) only [kc, prep1, Nat.reduceAdd, opS_fieldAddr, effR, ty_fld51_0, ty_sz4, Nat.add_zero, updH, packT, ty_agg4, opS_un, effM, evUn, Bool.not_false, stS_guard, ofConst, Value.oneCell', ifT, evBin, decT, opS_pick]; (with_reducible refine hK _ ?_))
        refine WpA_cond rfl (fun _ => ?_) (fun h => by simp at h <;> omega)
        (refine WpA_sreg [] [] (by simp) fun K hK => ?_; simp (disch := omega) only [kc, prep1, Nat.reduceAdd, opS_conv, effM, Tryz.underlying43, ty_int2, e1, ofConst, Value.oneCell']; (with_reducible refine hK _ ?_))
        (refine WpA_ret ⟨.inr rfl, ret_now rfl ?_ rfl⟩; simp (disch := omega) only [resA, Tryz.results90, resL, resOne, List.getElem?_cons_succ, List.getElem?_cons_zero, Option.bind_some, tvPair, Option.map_some])
      · rw [show i64R z = .tup [(false, [.p (.raw (.int .i64 0))]), (false, [.p (.raw (.bool false))])] by unfold i64R; rw [if_neg (by omega)]]
        refine callC_of Tryz.func90 rfl (by kernel_rfl) ?_; rw [Tryz.ntmps90]
        (refine WpA_sreg [] [] (by simp) fun K hK => ?_; simp (disch := omega) only [kc, prep1, Nat.reduceAdd, tZ, decF, List.replicate, opS_box, newS, effA, cellsOf, isPure, ifT, ofConst, Value.oneCell']; (with_reducible refine hK _ ?_))
        (refine WpA_sreg [⟨2, _, _, _, ht⟩] [] (by simp) fun K hK => ?_; simp (disch := omega) only [kc, slU, CItem.a, prep1, Nat.reduceAdd, opS_fieldAddr, effR, ty_fld51_1, ty_sz49, updH, packT, ty_agg49, opS_call, newS, effA, List.find?_cons, evAll, norm, CallRes.plain, rawTV, rawAV, normOk, noRefTV, noRefAV, renTV, renAV]; (with_reducible refine hK _ ?_))
        (refine WpA_sreg [⟨1, _, _, _, hw⟩] [] (by simp) fun K hK => ?_; simp (disch := omega) only [kc, slU, CItem.a, prep1, Nat.reduceAdd, opS_call, newS, effA, List.find?_cons, evAll, norm, CallRes.plain, rawTV, rawAV, normOk, noRefTV, noRefAV, renTV, renAV]; (with_reducible refine hK _ ?_))
        refine WpA_seq (WpA_block ?_)
        (refine WpA_sreg [] [] (by simp) fun K hK => ?_; simp (disch := omega) only [kc, prep1, Nat.reduceAdd, opS_len, effR, ty_slice49, ls_len, effM, ofConst, Value.oneCell', evBin, decF]; (with_reducible refine hK _ ?_))
        refine WpA_cond rfl (fun h => by simp at h <;> omega) (fun _ => ?_)
        (refine WpA_sreg [] [] (by simp) fun K hK => ?_; simp (disch := omega) only [kc, prep1, Nat.reduceAdd, opS_fieldAddr, effR, ty_fld51_0, ty_sz4, Nat.add_zero, updH, packT, ty_agg4, stS_guard, effM, ofConst, Value.oneCell', Option.map_none, opS_pick]; (with_reducible refine hK _ ?_))
        refine WpA_cond rfl (fun h => by simp at h <;> omega) (fun _ => ?_)
        (refine WpA_sreg [] [] (by simp) fun K hK => ?_; simp (disch := omega) only [kc, prep1, Nat.reduceAdd, opS_fieldAddr, effR, ty_fld51_0, ty_sz4, Nat.add_zero, updH, packT, ty_agg4, opS_un, effM, evUn, Bool.not_false, stS_guard, ofConst, Value.oneCell', ifT, evBin, decF, opS_pick]; (with_reducible refine hK _ ?_))
        refine WpA_cond rfl (fun h => by simp at h <;> omega) (fun _ => WpA_skip ?_)
        show WpA _ _ _ _
        (refine WpA_sreg [] [] (by simp) fun K hK => ?_; simp (disch := omega) only [kc, prep1, ofConst, Value.oneCell']; (with_reducible refine hK _ ?_))
        (refine WpA_ret ⟨.inr rfl, ret_now rfl ?_ rfl⟩; simp (disch := omega) only [resA, Tryz.results90, resL, resOne, List.getElem?_cons_succ, List.getElem?_cons_zero, Option.bind_some, tvPair, Option.map_some])
theorem natV_digit : ∀ {l : List Nat} {i x : Nat}, Lmb l → l[i]? = some x → natV l / 4294967296 ^ i % 4294967296 = x
  | [], i, x, _, h => by simp at h
  | a :: l, 0, x, hl, h => by
    rw [lmb_cons] at hl
    simp at h
    subst h
    have := hl.1
    simp only [natV, Nat.pow_zero]
    omega
  | a :: l, i + 1, x, hl, h => by
    rw [lmb_cons] at hl
    have ha := hl.1
    simp at h
    have := natV_digit hl.2 h
    rw [Nat.pow_succ, Nat.mul_comm, ← Nat.div_div_eq_div_mul]
    simp only [natV]
    rw [show (a + 4294967296 * natV l) / 4294967296 = natV l by omega]
    exact this
theorem pow32 (i : Nat) : 4294967296 ^ i = 2 ^ (32 * i) := by rw [Nat.pow_mul]
theorem bit_digit {a k x : Nat} (h : (limbs a)[k / 32]? = some x) : x / 2 ^ (k % 32) % 2 = a / 2 ^ k % 2 := by
  have h1 := natV_digit (lmb_limbs a) h
  rw [natV_limbs, pow32] at h1
  rw [← Nat.toNat_testBit, ← Nat.toNat_testBit, ← h1, show (4294967296 : Nat) = 2 ^ 32 from rfl, Nat.testBit_mod_two_pow, Nat.testBit_div_two_pow]
  rw [show k % 32 + 32 * (k / 32) = k by omega]
  have : k % 32 < 32 := by omega
  simp [this]
structure DivG (a b n : Nat) where
  t : Nat
  O : List Nat
  ht : t ≤ 32 * n
  len : O.length = n
  lmb : Lmb O
  val : natV O = a / 2 ^ t / b * 2 ^ t
theorem half (a k : Nat) : a / 2 ^ k = 2 * (a / 2 ^ (k + 1)) + a / 2 ^ k % 2 := by
  rw [Nat.pow_succ, ← Nat.div_div_eq_div_mul]; omega
theorem div_lo {a b k : Nat} (hb : 0 < b) (h : 2 * (a / 2 ^ (k + 1) % b) + a / 2 ^ k % 2 < b) : a / 2 ^ k / b = 2 * (a / 2 ^ (k + 1) / b) ∧ a / 2 ^ k % b = 2 * (a / 2 ^ (k + 1) % b) + a / 2 ^ k % 2 := by
  have h1 := half a k
  have h2 := Nat.div_add_mod (a / 2 ^ (k + 1)) b
  generalize a / 2 ^ (k + 1) = X at *
  generalize a / 2 ^ k % 2 = e at *
  generalize X % b = r at *
  generalize X / b = q at *
  have h3 : a / 2 ^ k = b * (2 * q) + (2 * r + e) := by rw [h1, ← h2, Nat.mul_left_comm b 2 q]; omega
  rw [h3]
  exact ⟨by rw [Nat.mul_add_div hb, Nat.div_eq_of_lt h, Nat.add_zero], by rw [Nat.mul_add_mod, Nat.mod_eq_of_lt h]⟩
theorem div_hi {a b k : Nat} (hb : 0 < b) (h : b ≤ 2 * (a / 2 ^ (k + 1) % b) + a / 2 ^ k % 2) : a / 2 ^ k / b = 2 * (a / 2 ^ (k + 1) / b) + 1 ∧ a / 2 ^ k % b = 2 * (a / 2 ^ (k + 1) % b) + a / 2 ^ k % 2 - b := by
  have h1 := half a k
  have h2 := Nat.div_add_mod (a / 2 ^ (k + 1)) b
  have hr : a / 2 ^ (k + 1) % b < b := Nat.mod_lt _ hb
  have he : a / 2 ^ k % 2 < 2 := Nat.mod_lt _ (by omega)
  generalize a / 2 ^ (k + 1) = X at *
  generalize a / 2 ^ k % 2 = e at *
  generalize X % b = r at *
  generalize X / b = q at *
  have h3 : a / 2 ^ k = b * (2 * q + 1) + (2 * r + e - b) := by have := Nat.mul_left_comm b 2 q; rw [h1, ← h2, Nat.mul_add b (2 * q) 1, Nat.mul_one]; omega
  have h4 : 2 * r + e - b < b := by omega
  rw [h3]
  exact ⟨by rw [Nat.mul_add_div hb, Nat.div_eq_of_lt h4, Nat.add_zero], by rw [Nat.mul_add_mod, Nat.mod_eq_of_lt h4]⟩
theorem divG_lo {a b n k : Nat} {O : List Nat} (hb : 0 < b) (ht : k + 1 ≤ 32 * n) (len : O.length = n) (lmb : Lmb O) (val : natV O = a / 2 ^ (k + 1) / b * 2 ^ (k + 1)) (h : 2 * (a / 2 ^ (k + 1) % b) + a / 2 ^ k % 2 < b) : ∃ g : DivG a b n, g.t = k ∧ g.O = O :=
  ⟨⟨k, O, by omega, len, lmb, by rw [val, (div_lo hb h).1, Nat.pow_succ, Nat.mul_comm 2, Nat.mul_assoc, Nat.mul_comm 2]⟩, rfl, rfl⟩
theorem divG_hi {a b n k x : Nat} {O : List Nat} (hb : 0 < b) (ht : k + 1 ≤ 32 * n) (len : O.length = n) (lmb : Lmb O) (val : natV O = a / 2 ^ (k + 1) / b * 2 ^ (k + 1)) (h : b ≤ 2 * (a / 2 ^ (k + 1) % b) + a / 2 ^ k % 2) (hx : O[k / 32]? = some x) : ∃ g : DivG a b n, g.t = k ∧ g.O = O.set (k / 32) (x ||| 2 ^ (k % 32)) := by
  have hx' := lmb_at lmb hx
  have hj : k % 32 < 32 := Nat.mod_lt _ (by omega)
  have hor : x ||| 2 ^ (k % 32) < 4294967296 := Nat.or_lt_two_pow (n := 32) hx' (Nat.pow_lt_pow_right (by omega) hj)
  refine ⟨⟨k, O.set (k / 32) (x ||| 2 ^ (k % 32)), by omega, by simp [len], lmb_set lmb hor, ?_⟩, rfl, rfl⟩
  have h1 := natV_digit lmb hx
  have h2 := natV_set O (k / 32) (x ||| 2 ^ (k % 32)) x hx
  have ek : 2 ^ (k + 1) = 2 ^ (32 * (k / 32)) * 2 ^ (k % 32 + 1) := by rw [← Nat.pow_add]; congr 1; omega
  rw [pow32] at h1 h2
  rw [(div_hi hb h).1]
  generalize a / 2 ^ (k + 1) / b = q at *
  have h3 : x = q % 2 ^ (31 - k % 32) * 2 ^ (k % 32 + 1) := by
    rw [← h1, val, ek, Nat.mul_comm (2 ^ (32 * (k / 32))), ← Nat.mul_assoc, Nat.mul_div_cancel _ (Nat.pow_pos (by omega))]
    rw [show (4294967296 : Nat) = 2 ^ (31 - k % 32) * 2 ^ (k % 32 + 1) by rw [← Nat.pow_add, show 31 - k % 32 + (k % 32 + 1) = 32 by omega], Nat.mul_mod_mul_right]
  have h4 : x ||| 2 ^ (k % 32) = x + 2 ^ (k % 32) := by
    have := or_low (q % 2 ^ (31 - k % 32)) (2 ^ (k % 32)) (k % 32 + 1) (Nat.pow_lt_pow_right (by omega) (by omega))
    rw [← h3] at this
    exact this
  rw [h4] at h2 ⊢
  rw [Nat.add_mul, ← Nat.pow_add, show k % 32 + 32 * (k / 32) = k by omega, val] at h2
  have h5 : (2 * q + 1) * 2 ^ k = q * 2 ^ (k + 1) + 2 ^ k := by rw [Nat.add_mul, Nat.one_mul, Nat.mul_comm 2 q, Nat.mul_assoc, Nat.mul_comm 2 (2 ^ k), ← Nat.pow_succ]
  rw [h5]
  generalize natV (O.set (k / 32) (x + 2 ^ (k % 32))) = N at *
  generalize x * 2 ^ (32 * (k / 32)) = U at *
  generalize q * 2 ^ (k + 1) = V at *
  generalize 2 ^ k = W at *
  omega
theorem div_start {a n : Nat} (h : (limbs a).length = n) : a / 2 ^ (32 * n) = 0 := by
  have := natV_lt (lmb_limbs a)
  rw [natV_limbs, pow32, h] at this
  exact Nat.div_eq_of_lt this
end Go.Proofs.YtennjcjjegbhgaaGreat
