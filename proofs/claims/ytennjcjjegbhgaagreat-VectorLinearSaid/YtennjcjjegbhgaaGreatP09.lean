/-
  Part 10 of a proof (walks and plain facts).
-/
import Derived.Test.YtennjcjjegbhgaaGreatP08
set_option linter.all false
namespace Go.Proofs.YtennjcjjegbhgaaGreat
open Go.RowKit
abbrev mxF (d n c : Nat) (f : Nat → Nat → Int) : List OObj := ⟨120, 1, spn d (List.replicate n c)⟩ :: (mat n c f).map rwO
theorem mat_lens (n c : Nat) (f : Nat → Nat → Int) : (mat n c f).map List.length = List.replicate n c := by
  apply List.ext_getElem?
  intro i
  rw [List.getElem?_map, List.getElem?_replicate]
  by_cases h : i < n
  · rw [mat_get _ _ h, if_pos h]; simp [rowF_len]
  · rw [List.getElem?_eq_none (by rw [mat_len]; omega), if_neg h]; rfl
theorem mxF_eq (d n c : Nat) (f : Nat → Nat → Int) : mxO d (mat n c f) = mxF d n c f := by rw [mxO, mat_lens]
theorem mat_rep (n c : Nat) : List.replicate n (List.replicate c (0 : Int)) = mat n c fun _ _ => 0 := by
  apply List.ext_getElem?
  intro i
  rw [List.getElem?_replicate]
  by_cases h : i < n
  · rw [mat_get _ _ h, if_pos h]
    congr 1
    apply List.ext_getElem?
    intro j
    rw [List.getElem?_replicate]
    by_cases h : j < c
    · rw [rowF_get _ h, if_pos h]
    · rw [List.getElem?_eq_none (by rw [rowF_len]; omega), if_neg h]
  · rw [List.getElem?_eq_none (by rw [mat_len]; omega), if_neg h]
theorem spn_get {n i : Nat} (d c : Nat) (h : i < n) : (spn d (List.replicate n c))[i]? = some [.sl d (i + 1) 0 c] := by
  simp [spn, h]
theorem mxr_get {n i : Nat} (c : Nat) (f : Nat → Nat → Int) (h : i < n) : ((mat n c f).map rwO)[i]? = some ⟨51, 2, lc fZ (rowF c (f i))⟩ := by
  rw [List.getElem?_map, mat_get _ _ h]; rfl
def upd (f : Nat → Nat → Int) (i j : Nat) (v : Int) : Nat → Nat → Int := fun a => if a = i then (fun b => if b = j then v else f i b) else f a
theorem mxr_set {n i j : Nat} (c : Nat) (f : Nat → Nat → Int) (v : Int) : ((mat n c f).map rwO).set i ⟨51, 2, (lc fZ (rowF c (f i))).set j [.p (.raw (.bool (decide (v < 0)))), .p (.sl (ls fU (limbs v.natAbs)))]⟩ = (mat n c (upd f i j v)).map rwO := by
  have e : (⟨51, 2, (lc fZ (rowF c (f i))).set j [.p (.raw (.bool (decide (v < 0)))), .p (.sl (ls fU (limbs v.natAbs)))]⟩ : OObj) = rwO (rowF c fun b => if b = j then v else f i b) := by
    rw [← rowF_set, rwO, ← lc_set]; rfl
  rw [e, ← List.map_set, mat_set]; rfl
theorem mxr_congr {n c : Nat} {f g : Nat → Nat → Int} (h : ∀ i j, i < n → j < c → f i j = g i j) : (mat n c f).map rwO = (mat n c g).map rwO := by rw [mat_congr h]
theorem mxF_ren (d e n c : Nat) (f : Nat → Nat → Int) : (mxF d n c f).map (renO e) = mxF e n c f := by rw [← mxF_eq, ← mxF_eq, mxO_ren]
theorem fzOk_mx {H : OH} {d n c : Nat} {f : Nat → Nat → Int} (h : H d = mxF d n c f) : fzOk H d := fun r o ho e he x hx => by
  rw [h] at ho
  cases r with
  | succ r =>
    rw [List.getElem?_cons_succ, List.getElem?_map] at ho
    obtain ⟨l, hl, rfl⟩ := Option.map_eq_some_iff.1 ho
    exact .inl (pureRow_lc _ _ l e he x hx)
  | zero =>
    simp at ho
    subst ho
    simp only at he
    obtain ⟨k, hk⟩ := List.mem_iff_getElem?.1 he
    have hkn : k < n := by
      have := (List.getElem?_eq_some_iff.1 hk).1
      rwa [spn_len, List.length_replicate] at this
    rw [spn_get d c hkn] at hk
    injection hk with hk
    subst hk
    simp at hx
    subst hx
    refine .inr ⟨k + 1, 0, c, rwO (rowF c (f k)), rfl, ?_, pureRow_lc _ _ _⟩
    rw [h, List.getElem?_cons_succ, List.getElem?_map, mat_get _ _ hkn]; rfl
theorem fzM {H : OH} {d n c : Nat} {f : Nat → Nat → Int} (h : H d = mxF d n c f) : fzTV H d (.one (.sl d 0 0 n)) = slM (mat n c f) := by
  have e : ((spn d (List.replicate n c)).map (List.map (cellF H d))) = ls (fR fZ) (mat n c f) := by
    apply List.ext_getElem?
    intro i
    rw [List.getElem?_map, ls_get]
    by_cases hi : i < n
    · rw [spn_get d c hi, mat_get _ _ hi]
      simp only [Option.map_some, List.map_cons, List.map_nil, cellF, h, List.getElem?_cons_succ, mxr_get _ _ hi, fR, lc_take, lc_drop, lc_pure]
      rw [List.drop_zero, List.take_of_length_le (by rw [rowF_len]; omega)]
    · rw [List.getElem?_eq_none (by rw [spn_len, List.length_replicate]; omega), List.getElem?_eq_none (by rw [mat_len]; omega)]; rfl
  simp only [fzTV, fzAV, if_true, h, List.getElem?_cons_zero]
  rw [List.drop_zero, List.take_of_length_le (by rw [spn_len, List.length_replicate]; omega), e]
abbrev slI (M : List (List Int)) : TV := .one (.p (.sl (ls (fR fI) M)))
def fiN : TV := .tup [(false, [.p (.raw (.slice none 0 0))]), (false, [.p (.raw (.bool false))])]
def fiY (M : List (List Int)) : TV := .tup [(false, [.p (.sl (ls (fR fZ) M))]), (false, [.p (.raw (.bool true))])]
structure FiG (n : Nat) where
  i : Nat
  hi : i ≤ n
def part (f : Nat → Nat → Int) (i j : Nat) : Nat → Nat → Int := fun a b => if a < i ∨ (a = i ∧ b < j) then f a b else 0
theorem part_step (f : Nat → Nat → Int) (i j a b : Nat) : upd (part f i j) i j (f i j) a b = part f i (j + 1) a b := by
  unfold upd part
  by_cases h1 : a = i
  · subst h1
    by_cases h2 : b = j
    · subst h2; simp
    · have : b < j + 1 ↔ b < j := by omega
      simp [h2, this]
  · simp [h1]
theorem part_row {c : Nat} (f : Nat → Nat → Int) (i a b : Nat) (hb : b < c) : part f i c a b = part f (i + 1) 0 a b := by
  unfold part
  by_cases h1 : a < i
  · rw [if_pos (.inl h1), if_pos (.inl (by omega))]
  · by_cases h2 : a = i
    · rw [if_pos (.inr ⟨h2, hb⟩), if_pos (.inl (by omega))]
    · rw [if_neg (by omega), if_neg (by omega)]
theorem part_end {n : Nat} (f : Nat → Nat → Int) (a b : Nat) (ha : a < n) : part f n 0 a b = f a b := by
  unfold part; rw [if_pos (.inl ha)]
theorem part_zero (f : Nat → Nat → Int) : part f 0 0 = fun _ _ => 0 := by
  funext a b; unfold part; rw [if_neg (by omega)]
set_option maxRecDepth 100000 in
set_option maxHeartbeats 4000000 in
theorem FromInts_C (n c : Nat) (f : Nat → Nat → Int) (hn1 : 1 ≤ n) (hn : n ≤ 16) (hc1 : 1 ≤ c) (hc : c ≤ 16) (hf : ∀ i j, i < n → j < c → -9223372036854775808 ≤ f i j ∧ f i j ≤ 9223372036854775807) :
    CallC Tryz.prog 65 [slI (mat n c f)] ⟨[], fiY (mat n c f)⟩ := by
  have hml := mat_len n c f
  have h0 := mat_get (n := n) c f (i := 0) (by omega)
  have hZ := Zero_C n c hn hc
  rw [mat_rep, mxF_eq] at hZ
  refine callC_of Tryz.func65 rfl (by kernel_rfl) ?_; rw [Tryz.ntmps65]
  (refine WpA_sreg [] [] (by simp) fun K hK => ?_; simp (disch := omega) only [kc, prep1, slI, List.replicate, ofConst, Value.oneCell']; (with_reducible refine hK _ ?_))
  (refine WpA_seq (WpA_sreg [] [] (by simp) fun K hK => ?_); simp (disch := omega) only [kc, prep1, Nat.reduceAdd, opS_len, effR, ty_slice22, ls_len, hml, effM, ofConst, Value.oneCell', evBin, decF, stS_guard, ifT, opS_pick]; (with_reducible refine hK _ ?_))
  refine WpA_cond rfl (fun h => by simp at h <;> omega) (fun _ => WpA_skip ?_)
  show WpA _ _ _ _
  (refine WpA_seq (WpA_sreg [] [] (by simp) fun K hK => ?_); simp (disch := omega) only [kc, prep1, Nat.reduceAdd, opS_len, effR, ty_slice22, ls_len, hml, ofConst, Value.oneCell']; (with_reducible refine hK _ ?_))
  refine WpA_forb (G := FiG n) (fun g => ⟨[slI (mat n c f), jk, .raw (.slice none 0 0), .raw (.bool false), jk, jk, jk, jk, jk, jk, jk, jk, jk, jk, jk, jk, jk, slI (mat n c f), .raw (.int .i64 (n : Int)), .raw (.int .i64 (g.i : Int)), jk, jk, jk, jk, jk, jk, jk, jk, jk, jk, jk, jk, jk, jk, jk, jk, jk, jk, jk, jk, jk, jk, jk, jk, jk, jk, jk, jk, jk, jk, jk, jk, jk, jk, jk, jk, jk, jk, jk, jk, jk, jk, jk, jk, jk, jk, jk, jk, jk, jk, jk, jk, jk, jk, jk, jk, jk, jk], Hm []⟩) (fun g => n - g.i) ⟨0, by omega⟩ ?_ ?_
  · refine Weak_sub trivial ?_
    simp [wkL, okTV, okAV]
  · rintro ⟨i, hi⟩
    simp only
    by_cases hm : i < n
    · have hr := mat_get c f hm
      (refine WpA_sreg [] [] (by simp) fun K hK => ?_; simp (disch := omega) only [kc, prep1, slI, Hm, effM, evBin, decT]; (with_reducible refine hK _ ?_))
      refine WpA_seq (WpA_cond rfl (fun _ => WpA_skip ?_) (fun h => by simp at h <;> omega))
      refine WpA_seq (WpA_block ?_)
      (refine WpA_sreg [] [] (by simp) fun K hK => ?_; simp (disch := omega) only [kc, prep1, Nat.reduceAdd, opS_indexAddr, effR, natOf_pos, ty_slice22, ls_get, hr, fR, ty_sz23, packT, ty_agg23]; (with_reducible refine hK _ ?_))
      (refine WpA_sreg [] [] (by simp) fun K hK => ?_; simp (disch := omega) only [kc, prep1, Nat.reduceAdd, opS_len, effR, ty_slice23, ls_len, rowF_len, effM, ofConst, Value.oneCell', evBin, decF, stS_guard, ifT, opS_pick, opS_indexAddr, natOf_pos, Int.reduceToNat, ty_slice22, ls_get, h0, fR, ty_sz23, packT, ty_agg23, decT]; (with_reducible refine hK _ ?_))
      refine WpA_cond rfl (fun h => by simp at h <;> omega) (fun _ => WpA_skip ?_)
      show WpA _ _ _ _
      ((refine WpA_lreg [] [] (by simp) fun K hK => ?_); simp (disch := omega) only [kc, prep1, effM, ofConst, Value.oneCell', evBin, wrapI]; (with_reducible refine hK _ ?_))
      refine ⟨⟨i + 1, by omega⟩, by simp only; omega, Weak_sub trivial ?_⟩
      simp [wkL, okTV, okAV]
    · (refine WpA_sreg [] [] (by simp) fun K hK => ?_; simp (disch := omega) only [kc, prep1, slI, Hm, effM, evBin, decF]; (with_reducible refine hK _ ?_))
      refine WpA_seq (WpA_cond rfl (fun h => by simp at h <;> omega) (fun _ => WpA_exit ?_))
      show WpA _ _ _ _
      (refine WpA_sreg [⟨6, _, _, _, hZ⟩] [] (by simp) fun K hK => ?_; simp (disch := omega) only [kc, CItem.a, prep1, Nat.reduceAdd, opS_len, effR, ty_slice22, ls_len, hml, opS_indexAddr, ofConst, Value.oneCell', natOf_pos, Int.reduceToNat, ls_get, h0, fR, ty_sz23, packT, ty_agg23, ty_slice23, rowF_len, opS_call, newS, effA, List.find?_cons, evAll, norm, CallRes.plain, List.isEmpty_cons, rawTV, rawAV, normOk, Bool.not_false, noRefTV, noRefAV, Bool.or_false, renTV, renAV, renO]; (with_reducible refine hK _ ?_))
      (refine WpA_seq (WpA_sreg [] [] (by simp) fun K hK => ?_); simp (disch := omega) only [kc, prep1, Nat.reduceAdd, opS_len, effR, ty_slice22, ls_len, hml, ofConst, Value.oneCell']; (with_reducible refine hK _ ?_))
      refine WpA_forb (G := FiG n) (fun g => ⟨[slI (mat n c f), jk, .raw (.slice none 0 0), .raw (.bool false), jk, jk, .one (.sl 47 0 0 n), jk, jk, jk, jk, jk, jk, jk, jk, jk, jk, jk, jk, jk, jk, jk, jk, jk, jk, jk, jk, jk, jk, jk, jk, jk, jk, jk, jk, jk, jk, jk, jk, jk, jk, jk, jk, jk, jk, jk, jk, jk, jk, .raw (.int .i64 (n : Int)), .raw (.int .i64 (g.i : Int)), jk, jk, jk, jk, jk, jk, jk, jk, jk, jk, jk, jk, jk, jk, jk, jk, jk, jk, jk, jk, jk, jk, jk, jk, jk, jk, jk], Hm [(47, mxF 47 n c (part f g.i 0))]⟩) (fun g => n - g.i) ⟨0, by omega⟩ ?_ ?_
      · refine Weak_sub ⟨?_, trivial⟩ ?_
        · rw [part_zero]; exact mxF_ren 0 47 n c _
        · simp [wkL, okTV, okAV]
      · rintro ⟨i, hi⟩
        simp only
        by_cases hm2 : i < n
        · have hr := mat_get c f hm2
          (refine WpA_sreg [] [] (by simp) fun K hK => ?_; simp (disch := omega) only [kc, prep1, slI, Hm, effM, evBin, decT]; (with_reducible refine hK _ ?_))
          refine WpA_seq (WpA_cond rfl (fun _ => WpA_skip ?_) (fun h => by simp at h <;> omega))
          refine WpA_seq (WpA_block ?_)
          (refine WpA_sreg [] [] (by simp) fun K hK => ?_; simp (disch := omega) only [kc, prep1]; (with_reducible refine hK _ ?_))
          (refine WpA_sreg [] [] (by simp) fun K hK => ?_; simp (disch := omega) only [kc, prep1, Nat.reduceAdd, opS_indexAddr, effR, natOf_pos, ty_slice22, ls_get, hr, fR, ty_sz23, packT, ty_agg23, opS_len, ty_slice23, ls_len, rowF_len, ofConst, Value.oneCell']; (with_reducible refine hK _ ?_))
          refine WpA_forb (G := FiG c) (fun g => ⟨[slI (mat n c f), jk, .raw (.slice none 0 0), .raw (.bool false), jk, jk, .one (.sl 47 0 0 n), .raw (.int .i64 (i : Int)), jk, jk, jk, jk, jk, jk, jk, jk, jk, jk, jk, jk, jk, jk, jk, jk, jk, jk, jk, jk, jk, jk, jk, jk, jk, jk, jk, jk, jk, jk, jk, jk, jk, jk, jk, jk, jk, jk, jk, jk, jk, .raw (.int .i64 (n : Int)), .raw (.int .i64 (i : Int)), jk, jk, jk, jk, jk, jk, .raw (.int .i64 (c : Int)), .raw (.int .i64 (g.i : Int)), jk, jk, jk, jk, jk, jk, jk, jk, jk, jk, jk, jk, jk, jk, jk, jk, jk, jk, jk], Hm [(47, mxF 47 n c (part f i g.i))]⟩) (fun g => c - g.i) ⟨0, by omega⟩ ?_ ?_
          · refine Weak_sub ⟨rfl, trivial⟩ ?_
            simp [wkL, okTV, okAV]
          · rintro ⟨j, hj⟩
            simp only
            by_cases hm3 : j < c
            · have hjr := rowF_get (f i) hm3
              have hS := small_C (f i j) (hf i j hm2 hm3).1 (hf i j hm2 hm3).2
              have g1 := spn_get (n := n) (i := i) 47 c hm2
              have g2 := mxr_get c (part f i j) hm2
              have g3 := rowF_get (part f i j i) hm3
              (refine WpA_sreg [] [] (by simp) fun K hK => ?_; simp (disch := omega) only [kc, prep1, slI, Hm, effM, evBin, decT]; (with_reducible refine hK _ ?_))
              refine WpA_seq (WpA_cond rfl (fun _ => WpA_skip ?_) (fun h => by simp at h <;> omega))
              refine WpA_seq (WpA_block ?_)
              (refine WpA_sreg [] [] (by simp) fun K hK => ?_; simp (disch := omega) only [kc, prep1]; (with_reducible refine hK _ ?_))
              ((refine WpA_ldraw mixedA [⟨12, _, _, _, hS⟩] [] (by kernel_rfl) (by simp) fun K hK => ?_); simp (disch := omega) only [kc, tZ, CItem.a, prep1, Nat.reduceAdd, opS_indexAddr, effR, natOf_pos, ty_slice62, ty_sz120, ifT, g1, packT, ty_agg120, ty_slice22, ls_get, hr, fR, ty_sz23, ty_agg23, ty_slice23, hjr, fI, ty_sz2, ty_agg2, opS_call, newS, effA, List.find?_cons, evAll, norm, CallRes.plain, rawTV, rawAV, normOk, noRefTV, noRefAV, renTV, renAV, ty_slice120, g2, ty_sz51, opS_store, wrS, effD, lc_get, fZ, g3, cellsOf, Nat.le_refl, isPure, putCells, mxr_set, killTV, killAV]; (with_reducible refine hK _ ?_))
              show WpA _ _ _ _
              ((refine WpA_lreg [] [] (by simp) fun K hK => ?_); simp (disch := omega) only [kc, prep1, effM, ofConst, Value.oneCell', evBin, wrapI]; (with_reducible refine hK _ ?_))
              refine ⟨⟨j + 1, by omega⟩, by simp only; omega, Weak_sub ⟨?_, trivial⟩ ?_⟩
              · show _ :: _ = _ :: _
                rw [mxr_congr fun a b _ _ => part_step f i j a b]
              · simp [wkL, okTV, okAV]
            · have hjc : j = c := by omega
              subst hjc
              (refine WpA_sreg [] [] (by simp) fun K hK => ?_; simp (disch := omega) only [kc, prep1, slI, Hm, effM, evBin, decF]; (with_reducible refine hK _ ?_))
              refine WpA_seq (WpA_cond rfl (fun h => by simp at h <;> omega) (fun _ => WpA_exit ?_))
              show WpA _ _ _ _
              ((refine WpA_lreg [] [] (by simp) fun K hK => ?_); simp (disch := omega) only [kc, prep1, effM, ofConst, Value.oneCell', evBin, wrapI]; (with_reducible refine hK _ ?_))
              refine ⟨⟨i + 1, by omega⟩, by simp only; omega, Weak_sub ⟨?_, trivial⟩ ?_⟩
              · show _ :: _ = _ :: _
                rw [mxr_congr fun a b _ hb => part_row f i a b hb]
              · simp [wkL, okTV, okAV]
        · have hin : i = n := by omega
          subst hin
          (refine WpA_sreg [] [] (by simp) fun K hK => ?_; simp (disch := omega) only [kc, prep1, slI, Hm, effM, evBin, decF]; (with_reducible refine hK _ ?_))
          refine WpA_seq (WpA_cond rfl (fun h => by simp at h <;> omega) (fun _ => WpA_exit ?_))
          show WpA _ _ _ _
          have e : mxF 47 i c (part f i 0) = mxF 47 i c f := by
            show _ :: _ = _ :: _
            rw [mxr_congr fun a b ha _ => part_end f a b ha]
          rw [e]
          refine WpA.weak ((Weak_fz 47 (fzOk_mx rfl)).trans (Weak_sub (tm := [jk, jk, jk, jk, jk, jk, slM (mat i c f), jk, jk, jk, jk, jk, jk, jk, jk, jk, jk, jk, jk, jk, jk, jk, jk, jk, jk, jk, jk, jk, jk, jk, jk, jk, jk, jk, jk, jk, jk, jk, jk, jk, jk, jk, jk, jk, jk, jk, jk, jk, jk, jk, jk, jk, jk, jk, jk, jk, jk, jk, jk, jk, jk, jk, jk, jk, jk, jk, jk, jk, jk, jk, jk, jk, jk, jk, jk, jk, jk, jk]) (l := []) trivial (by simp [wkL, okTV, okAV]; exact (fzM (H := Hm [(47, mxF 47 i c f)]) (d := 47) (n := i) (c := c) (f := f) rfl).symm))) ?_
          (refine WpA_sreg [] [] (by simp) fun K hK => ?_; simp (disch := omega) only [kc, prep1, Nat.reduceAdd, slM, Hm, ofConst, Value.oneCell']; (with_reducible refine hK _ ?_))
          (refine WpA_ret ⟨.inr rfl, ret_now rfl ?_ rfl⟩; simp (disch := omega) only [resA, Tryz.results65, resL, resOne, List.getElem?_cons_succ, List.getElem?_cons_zero, Option.bind_some, tvPair, Option.map_some, fiY])
structure FiN (M : List (List Int)) where
  i : Nat
  hi : i ≤ M.length
  ok : ∀ r ∈ M.take i, rOk (M.headD []).length r
set_option maxRecDepth 100000 in
set_option maxHeartbeats 4000000 in
theorem FromInts_no (M : List (List Int)) (hM : ¬ ShP M) : CallC Tryz.prog 65 [slI M] ⟨[], fiN⟩ := by
  by_cases h1 : M.length < 1
  · refine callC_of Tryz.func65 rfl (by kernel_rfl) ?_; rw [Tryz.ntmps65]
    (refine WpA_sreg [] [] (by simp) fun K hK => ?_; simp (disch := omega) only [kc, prep1, slI, List.replicate, ofConst, Value.oneCell']; (with_reducible refine hK _ ?_))
    (refine WpA_seq (WpA_sreg [] [] (by simp) fun K hK => ?_); simp (disch := omega) only [kc, prep1, Nat.reduceAdd, opS_len, effR, ty_slice22, ls_len, effM, ofConst, Value.oneCell', evBin, decT, stS_guard, reduceCtorEq, Option.map_none, opS_pick]; (with_reducible refine hK _ ?_))
    refine WpA_cond rfl (fun _ => ?_) (fun h => by simp at h <;> omega)
    (refine WpA_sreg [] [] (by simp) fun K hK => ?_; simp (disch := omega) only [kc, prep1, ofConst, Value.oneCell']; (with_reducible refine hK _ ?_))
    (refine WpA_ret ⟨.inr rfl, ret_now rfl ?_ rfl⟩; simp (disch := omega) only [resA, Tryz.results65, resL, resOne, List.getElem?_cons_succ, List.getElem?_cons_zero, Option.bind_some, tvPair, Option.map_some, fiN])
  by_cases h2 : 16 < M.length
  · refine callC_of Tryz.func65 rfl (by kernel_rfl) ?_; rw [Tryz.ntmps65]
    (refine WpA_sreg [] [] (by simp) fun K hK => ?_; simp (disch := omega) only [kc, prep1, slI, List.replicate, ofConst, Value.oneCell']; (with_reducible refine hK _ ?_))
    (refine WpA_seq (WpA_sreg [] [] (by simp) fun K hK => ?_); simp (disch := omega) only [kc, prep1, Nat.reduceAdd, opS_len, effR, ty_slice22, ls_len, effM, ofConst, Value.oneCell', evBin, decF, stS_guard, ifT, decT, opS_pick]; (with_reducible refine hK _ ?_))
    refine WpA_cond rfl (fun _ => ?_) (fun h => by simp at h <;> omega)
    (refine WpA_sreg [] [] (by simp) fun K hK => ?_; simp (disch := omega) only [kc, prep1, ofConst, Value.oneCell']; (with_reducible refine hK _ ?_))
    (refine WpA_ret ⟨.inr rfl, ret_now rfl ?_ rfl⟩; simp (disch := omega) only [resA, Tryz.results65, resL, resOne, List.getElem?_cons_succ, List.getElem?_cons_zero, Option.bind_some, tvPair, Option.map_some, fiN])
  have h0 := headD_at (M := M) (by omega)
  refine callC_of Tryz.func65 rfl (by kernel_rfl) ?_; rw [Tryz.ntmps65]
  (refine WpA_sreg [] [] (by simp) fun K hK => ?_; simp (disch := omega) only [kc, prep1, slI, List.replicate, ofConst, Value.oneCell']; (with_reducible refine hK _ ?_))
  (refine WpA_seq (WpA_sreg [] [] (by simp) fun K hK => ?_); simp (disch := omega) only [kc, prep1, Nat.reduceAdd, opS_len, effR, ty_slice22, ls_len, effM, ofConst, Value.oneCell', evBin, decF, stS_guard, ifT, opS_pick]; (with_reducible refine hK _ ?_))
  refine WpA_cond rfl (fun h => by simp at h <;> omega) (fun _ => WpA_skip ?_)
  show WpA _ _ _ _
  (refine WpA_seq (WpA_sreg [] [] (by simp) fun K hK => ?_); simp (disch := omega) only [kc, prep1, Nat.reduceAdd, opS_len, effR, ty_slice22, ls_len, ofConst, Value.oneCell']; (with_reducible refine hK _ ?_))
  refine WpA_forb (G := FiN M) (fun g => ⟨[slI M, jk, .raw (.slice none 0 0), .raw (.bool false), jk, jk, jk, jk, jk, jk, jk, jk, jk, jk, jk, jk, jk, slI M, .raw (.int .i64 (M.length : Int)), .raw (.int .i64 (g.i : Int)), jk, jk, jk, jk, jk, jk, jk, jk, jk, jk, jk, jk, jk, jk, jk, jk, jk, jk, jk, jk, jk, jk, jk, jk, jk, jk, jk, jk, jk, jk, jk, jk, jk, jk, jk, jk, jk, jk, jk, jk, jk, jk, jk, jk, jk, jk, jk, jk, jk, jk, jk, jk, jk, jk, jk, jk, jk, jk], Hm []⟩) (fun g => M.length - g.i) ⟨0, by omega, fun r hr => by simp at hr⟩ ?_ ?_
  · refine Weak_sub trivial ?_
    simp [wkL, okTV, okAV]
  · rintro ⟨i, hi, ok⟩
    simp only
    by_cases hm : i < M.length
    · obtain ⟨r, hr⟩ := getElem?_of_lt hm
      (refine WpA_sreg [] [] (by simp) fun K hK => ?_; simp (disch := omega) only [kc, prep1, slI, Hm, effM, evBin, decT]; (with_reducible refine hK _ ?_))
      refine WpA_seq (WpA_cond rfl (fun _ => WpA_skip ?_) (fun h => by simp at h <;> omega))
      refine WpA_seq (WpA_block ?_)
      (refine WpA_sreg [] [] (by simp) fun K hK => ?_; simp (disch := omega) only [kc, prep1, Nat.reduceAdd, opS_indexAddr, effR, natOf_pos, ty_slice22, ls_get, hr, fR, ty_sz23, packT, ty_agg23]; (with_reducible refine hK _ ?_))
      by_cases c1 : r.length < 1
      · (refine WpA_sreg [] [] (by simp) fun K hK => ?_; simp (disch := omega) only [kc, prep1, Nat.reduceAdd, opS_len, effR, ty_slice23, ls_len, effM, ofConst, Value.oneCell', evBin, decT, stS_guard, reduceCtorEq, Option.map_none, opS_pick, opS_indexAddr, natOf_pos, Int.reduceToNat, ty_slice22]; (with_reducible refine hK _ ?_))
        refine WpA_cond rfl (fun _ => ?_) (fun h => by simp at h <;> omega)
        (refine WpA_sreg [] [] (by simp) fun K hK => ?_; simp (disch := omega) only [kc, prep1, ofConst, Value.oneCell']; (with_reducible refine hK _ ?_))
        (refine WpA_ret ⟨.inr rfl, ret_now rfl ?_ rfl⟩; simp (disch := omega) only [resA, Tryz.results65, resL, resOne, List.getElem?_cons_succ, List.getElem?_cons_zero, Option.bind_some, tvPair, Option.map_some, fiN])
      by_cases c2 : 16 < r.length
      · (refine WpA_sreg [] [] (by simp) fun K hK => ?_; simp (disch := omega) only [kc, prep1, Nat.reduceAdd, opS_len, effR, ty_slice23, ls_len, effM, ofConst, Value.oneCell', evBin, decF, stS_guard, ifT, decT, opS_pick, reduceCtorEq, Option.map_none, opS_indexAddr, natOf_pos, Int.reduceToNat, ty_slice22]; (with_reducible refine hK _ ?_))
        refine WpA_cond rfl (fun _ => ?_) (fun h => by simp at h <;> omega)
        (refine WpA_sreg [] [] (by simp) fun K hK => ?_; simp (disch := omega) only [kc, prep1, ofConst, Value.oneCell']; (with_reducible refine hK _ ?_))
        (refine WpA_ret ⟨.inr rfl, ret_now rfl ?_ rfl⟩; simp (disch := omega) only [resA, Tryz.results65, resL, resOne, List.getElem?_cons_succ, List.getElem?_cons_zero, Option.bind_some, tvPair, Option.map_some, fiN])
      by_cases c3 : r.length = (M.headD []).length
      · (refine WpA_sreg [] [] (by simp) fun K hK => ?_; simp (disch := omega) only [kc, prep1, Nat.reduceAdd, opS_len, effR, ty_slice23, ls_len, effM, ofConst, Value.oneCell', evBin, decF, stS_guard, ifT, opS_pick, opS_indexAddr, natOf_pos, Int.reduceToNat, ty_slice22, ls_get, h0, fR, ty_sz23, packT, ty_agg23, decT]; (with_reducible refine hK _ ?_))
        refine WpA_cond rfl (fun h => by simp at h <;> omega) (fun _ => WpA_skip ?_)
        show WpA _ _ _ _
        ((refine WpA_lreg [] [] (by simp) fun K hK => ?_); simp (disch := omega) only [kc, prep1, effM, ofConst, Value.oneCell', evBin, wrapI]; (with_reducible refine hK _ ?_))
        refine ⟨⟨i + 1, by omega, fun r' hr' => ?_⟩, by simp only; omega, Weak_sub trivial ?_⟩
        · rw [List.take_add_one, hr] at hr'
          rcases List.mem_append.1 hr' with h | h
          · exact ok r' h
          · have : r' = r := by simpa using h
            subst this
            exact ⟨by omega, by omega, c3⟩
        · simp [wkL, okTV, okAV]
      · (refine WpA_sreg [] [] (by simp) fun K hK => ?_; simp (disch := omega) only [kc, prep1, Nat.reduceAdd, opS_len, effR, ty_slice23, ls_len, effM, ofConst, Value.oneCell', evBin, decF, stS_guard, ifT, opS_pick, opS_indexAddr, natOf_pos, Int.reduceToNat, ty_slice22, ls_get, h0, fR, ty_sz23, packT, ty_agg23, Bool.not_false]; (with_reducible refine hK _ ?_))
        refine WpA_cond rfl (fun _ => ?_) (fun h => by simp at h <;> omega)
        (refine WpA_sreg [] [] (by simp) fun K hK => ?_; simp (disch := omega) only [kc, prep1, ofConst, Value.oneCell']; (with_reducible refine hK _ ?_))
        (refine WpA_ret ⟨.inr rfl, ret_now rfl ?_ rfl⟩; simp (disch := omega) only [resA, Tryz.results65, resL, resOne, List.getElem?_cons_succ, List.getElem?_cons_zero, Option.bind_some, tvPair, Option.map_some, fiN])
    · exact absurd ⟨by omega, by omega, fun r hr => ok r (by rw [List.take_of_length_le (by omega)]; exact hr)⟩ hM
set_option maxRecDepth 100000 in
set_option maxHeartbeats 4000000 in
theorem Of_C (n c : Nat) (f : Nat → Nat → Int) (hn1 : 1 ≤ n) (hn : n ≤ 16) (hc1 : 1 ≤ c) (hc : c ≤ 16) (hf : ∀ i j, i < n → j < c → -9223372036854775808 ≤ f i j ∧ f i j ≤ 9223372036854775807) :
    CallC Tryz.prog 39 [slI (mat n c f)] ⟨[], slM (mat n c f)⟩ := by
  have hF := FromInts_C n c f hn1 hn hc1 hc hf
  refine callC_of Tryz.func39 rfl (by kernel_rfl) ?_; rw [Tryz.ntmps39]
  (refine WpA_sreg [] [] (by simp) fun K hK => ?_; simp (disch := omega) only [kc, prep1, slI, List.replicate, ofConst, Value.oneCell']; (with_reducible refine hK _ ?_))
  (refine WpA_sreg [⟨1, _, _, _, hF⟩] [] (by simp) fun K hK => ?_; simp (disch := omega) only [kc, slI, fiY, CItem.a, prep1, Nat.reduceAdd, opS_call, newS, effA, List.find?_cons, evAll, norm, CallRes.plain, rawTV, rawAV, normOk, noRefTV, noRefAV, renTV, renAV, opS_extract, effM]; (with_reducible refine hK _ ?_))
  (refine WpA_sreg [] [] (by simp) fun K hK => ?_; simp (disch := omega) only [kc, prep1]; (with_reducible refine hK _ ?_))
  (refine WpA_ret ⟨.inr rfl, ret_now rfl ?_ rfl⟩; simp (disch := omega) only [resA, Tryz.results39, resOne, List.getElem?_cons_succ, List.getElem?_cons_zero, slM])
end Go.Proofs.YtennjcjjegbhgaaGreat
namespace Go.Proofs.YtennjcjjegbhgaaGreat
open Go.RowKit
abbrev slN (l : List Nat) : TV := .one (.p (.sl (ls fN l)))
set_option maxRecDepth 100000 in
set_option maxHeartbeats 4000000 in
theorem first_C (k more : Nat) (hk : k ≤ 16) (hm : more ≤ 16) : CallC Tryz.prog 148 [.raw (.int .i64 (k : Int)), .raw (.int .i64 (more : Int))] ⟨[], slN (List.range k ++ [more])⟩ := by
  refine callC_of Tryz.func148 rfl (by kernel_rfl) ?_; rw [Tryz.ntmps148]
  (refine WpA_sreg [] [] (by simp) fun K hK => ?_; simp (disch := omega) only [kc, prep1, Nat.reduceAdd, List.replicate, ofConst, Value.oneCell']; (with_reducible refine hK _ ?_))
  (refine WpA_sreg [] [] (by simp) fun K hK => ?_; simp (disch := omega) only [kc, prep1, ofConst, Value.oneCell']; (with_reducible refine hK _ ?_))
  (refine WpA_seq (WpA_sreg [] [] (by simp) fun K hK => ?_); simp (disch := omega) only [kc, prep1, ofConst, Value.oneCell']; (with_reducible refine hK _ ?_))
  refine WpA_forb (G := FiG k) (fun g => ⟨[.raw (.int .i64 (k : Int)), .raw (.int .i64 (more : Int)), jk, jk, .raw (.slice none 0 0), .one (.sl 15 0 0 g.i), .raw (.int .i64 (g.i : Int)), jk, jk, jk, jk, jk, jk, jk, jk, jk, jk, jk, jk, jk], Hm [(15, [⟨3, 1, lc fN (List.range g.i)⟩])]⟩) (fun g => k - g.i) ⟨0, by omega⟩ ?_ ?_
  · refine (Weak_nil (k := 5) (d := 15) 3 1 (by omega) rfl rfl).trans (Weak_sub ⟨rfl, trivial⟩ ?_)
    simp [wkL, okTV, okAV]
  · rintro ⟨i, hi⟩
    simp only
    by_cases hm : i < k
    · (refine WpA_seq (WpA_sreg [] [] (by simp) fun K hK => ?_); simp (disch := omega) only [kc, prep1, Nat.reduceAdd, Hm, effM, evBin, decT]; (with_reducible refine hK _ ?_))
      refine WpA_cond rfl (fun _ => WpA_skip ?_) (fun h => by simp at h <;> omega)
      refine WpA_seq (WpA_block ?_)
      ((refine WpA_lreg [] [] (by simp) fun K hK => ?_); simp (disch := omega) only [kc, prep1, Nat.reduceAdd, opS_buildSlice, newS, effA, ty_slice156, ty_zero3, ty_sz3, litA, cellsOf, isPure, Nat.reduceMul, Nat.reduceLeDiff, List.contains_nil, unP, ifT, opS_append, appS, effD, newsOf, ty_by3, lc_allp, lc_len, List.length_range, allcons, allnil, and_true, killO, lc_kill, lcN_snoc, wrS, killTV, killAV]; (with_reducible refine hK _ ?_))
      show WpA _ _ _ _
      ((refine WpA_lreg [] [] (by simp) fun K hK => ?_); simp (disch := omega) only [kc, prep1, Nat.reduceAdd, effM, ofConst, Value.oneCell', evBin, wrapI]; (with_reducible refine hK _ ?_))
      refine ⟨⟨i + 1, by omega⟩, by simp only; omega, Weak_sub ⟨?_, trivial⟩ ?_⟩
      · rw [List.range_succ]; rfl
      · simp [wkL, okTV, okAV]
    · have hik : i = k := by omega
      subst hik
      (refine WpA_seq (WpA_sreg [] [] (by simp) fun K hK => ?_); simp (disch := omega) only [kc, prep1, Nat.reduceAdd, Hm, effM, evBin, decF]; (with_reducible refine hK _ ?_))
      refine WpA_cond rfl (fun h => by simp at h <;> omega) (fun _ => WpA_exit ?_)
      show WpA _ _ _ _
      (refine WpA_sreg [] [] (by simp) fun K hK => ?_; simp (disch := omega) only [kc, prep1, Nat.reduceAdd, opS_buildSlice, newS, effA, ty_slice156, ty_zero3, ty_sz3, litA, cellsOf, isPure, Nat.reduceMul, Nat.reduceLeDiff, List.contains_nil, unP, ifT, opS_append, appS, effD, newsOf, ty_by3, lc_allp, lc_len, List.length_range, allcons, allnil, and_true, killO, lc_kill, lcN_snoc, wrS, killTV, killAV]; (with_reducible refine hK _ ?_))
      refine WpA_ret ⟨.inr rfl, ret_fz 15 (fzOk_one rfl) ?_ rfl⟩
      have eT : List.take (i + 1) (List.range i ++ [more]) = List.range i ++ [more] := List.take_of_length_le (by simp)
      simp (disch := omega) only [kc, resA, Tryz.results148, resOne, fzTV, fzAV, updH, ifT, lc_take, eT, lc_cellF, slN]
structure SeG (n : Nat) where
  i : Nat
  hi : i ≤ n
theorem lcZ_snoc (l : List Int) (v : Int) : lc fZ l ++ [[.p (.raw (.bool (decide (v < 0)))), .p (.sl (ls fU (limbs v.natAbs)))]] = lc fZ (l ++ [v]) := by simp [lc, fZ]
theorem lcR_snoc (M : List (List Int)) (r : List Int) : lc (fR fZ) M ++ [[.p (.sl (ls fZ r))]] = lc (fR fZ) (M ++ [r]) := by simp [lc, fR]
theorem take_snoc {α β : Type} {l : List α} {i : Nat} {x : α} (g : α → β) (h : l[i]? = some x) : (l.take i).map g ++ [g x] = (l.take (i + 1)).map g := by
  rw [List.take_add_one, h]; simp
set_option maxRecDepth 100000 in
set_option maxHeartbeats 4000000 in
theorem Select_C (n c : Nat) (f : Nat → Nat → Int) (rs cs : List Nat) (hn : n ≤ 16) (hc : c ≤ 16) (hr : ∀ x ∈ rs, x < n) (hs : ∀ x ∈ cs, x < c) (lr : rs.length ≤ 17) (lcs : cs.length ≤ 17) :
    CallC Tryz.prog 147 [slM (mat n c f), slN rs, slN cs] ⟨[], slM (rs.map fun i => cs.map (f i))⟩ := by
  have hml := mat_len n c f
  refine callC_of Tryz.func147 rfl (by kernel_rfl) ?_; rw [Tryz.ntmps147]
  (refine WpA_sreg [] [] (by simp) fun K hK => ?_; simp (disch := omega) only [kc, prep1, slM, slN, Nat.reduceAdd, List.replicate, ofConst, Value.oneCell']; (with_reducible refine hK _ ?_))
  (refine WpA_sreg [] [] (by simp) fun K hK => ?_; simp (disch := omega) only [kc, prep1, ofConst, Value.oneCell']; (with_reducible refine hK _ ?_))
  (refine WpA_seq (WpA_sreg [] [] (by simp) fun K hK => ?_); simp (disch := omega) only [kc, prep1, Nat.reduceAdd, opS_len, effR, ty_slice156, ls_len, ofConst, Value.oneCell']; (with_reducible refine hK _ ?_))
  refine WpA_forb (G := SeG rs.length) (fun g => ⟨[slM (mat n c f), slN rs, slN cs, jk, jk, jk, .raw (.slice none 0 0), .one (.sl 39 0 0 g.i), jk, jk, jk, jk, jk, slN rs, .raw (.int .i64 (rs.length : Int)), .raw (.int .i64 (g.i : Int)), jk, jk, jk, jk, jk, jk, jk, jk, jk, jk, jk, jk, jk, jk, jk, jk, jk, jk, jk, jk, jk, jk, jk, jk, jk, jk], Hm [(39, [⟨120, 1, lc (fR fZ) ((rs.take g.i).map fun i => cs.map (f i))⟩])]⟩) (fun g => rs.length - g.i) ⟨0, by omega⟩ ?_ ?_
  · refine (Weak_nil (k := 7) (d := 39) 120 1 (by omega) rfl rfl).trans (Weak_sub ⟨rfl, trivial⟩ ?_)
    simp [wkL, okTV, okAV]
  · rintro ⟨i, hi⟩
    simp only
    by_cases hm : i < rs.length
    · obtain ⟨r, hri⟩ := getElem?_of_lt hm
      have hrn := hr r (List.mem_of_getElem? hri)
      have hrow := mat_get c f hrn
      (refine WpA_sreg [] [] (by simp) fun K hK => ?_; simp (disch := omega) only [kc, prep1, slM, slN, Hm, effM, evBin, decT]; (with_reducible refine hK _ ?_))
      refine WpA_seq (WpA_cond rfl (fun _ => WpA_skip ?_) (fun h => by simp at h <;> omega))
      refine WpA_seq (WpA_block ?_)
      (refine WpA_sreg [] [] (by simp) fun K hK => ?_; simp (disch := omega) only [kc, prep1, Nat.reduceAdd, opS_indexAddr, effR, natOf_pos, ty_slice156, ls_get, hri, fN, ty_sz3, packT, ty_agg3]; (with_reducible refine hK _ ?_))
      (refine WpA_sreg [] [] (by simp) fun K hK => ?_; simp (disch := omega) only [kc, prep1, ofConst, Value.oneCell']; (with_reducible refine hK _ ?_))
      (refine WpA_seq (WpA_sreg [] [] (by simp) fun K hK => ?_); simp (disch := omega) only [kc, prep1, Nat.reduceAdd, opS_len, effR, ty_slice156, ls_len, ofConst, Value.oneCell']; (with_reducible refine hK _ ?_))
      refine WpA_forb (G := SeG cs.length) (fun g => ⟨[slM (mat n c f), slN rs, slN cs, jk, jk, jk, .raw (.slice none 0 0), .one (.sl 39 0 0 i), jk, .raw (.int .i64 (r : Int)), .one (.sl 34 0 0 g.i), jk, jk, slN rs, .raw (.int .i64 (rs.length : Int)), .raw (.int .i64 (i : Int)), jk, jk, jk, slN cs, .raw (.int .i64 (cs.length : Int)), .raw (.int .i64 (g.i : Int)), jk, jk, jk, jk, jk, jk, jk, jk, jk, jk, jk, jk, jk, jk, jk, jk, jk, jk, jk, jk], Hm [(39, [⟨120, 1, lc (fR fZ) ((rs.take i).map fun i => cs.map (f i))⟩]), (34, [⟨51, 2, lc fZ ((cs.take g.i).map (f r))⟩])]⟩) (fun g => cs.length - g.i) ⟨0, by omega⟩ ?_ ?_
      · refine (Weak_nil (k := 10) (d := 34) 51 2 (by omega) rfl rfl).trans (Weak_sub ⟨rfl, rfl, trivial⟩ ?_)
        simp [wkL, okTV, okAV]
      · rintro ⟨j, hj⟩
        simp only
        by_cases hm2 : j < cs.length
        · obtain ⟨s, hsj⟩ := getElem?_of_lt hm2
          have hsc := hs s (List.mem_of_getElem? hsj)
          have hent := rowF_get (f r) hsc
          have eL : ((cs.take j).map (f r)).length = j := by simp; omega
          (refine WpA_sreg [] [] (by simp) fun K hK => ?_; simp (disch := omega) only [kc, prep1, slM, slN, Hm, effM, evBin, decT]; (with_reducible refine hK _ ?_))
          refine WpA_seq (WpA_cond rfl (fun _ => WpA_skip ?_) (fun h => by simp at h <;> omega))
          refine WpA_seq (WpA_block ?_)
          (refine WpA_sreg [] [] (by simp) fun K hK => ?_; simp (disch := omega) only [kc, prep1, Nat.reduceAdd, opS_indexAddr, effR, natOf_pos, ty_slice156, ls_get, hsj, fN, ty_sz3, packT, ty_agg3]; (with_reducible refine hK _ ?_))
          ((refine WpA_lreg [] [] (by simp) fun K hK => ?_); simp (disch := omega) only [kc, prep1, Nat.reduceAdd, opS_indexAddr, effR, natOf_pos, ty_slice62, ls_get, hrow, fR, ty_sz120, packT, ty_agg120, ty_slice120, hent, fZ, ty_sz51, ty_agg51, Nat.le_refl, opS_buildSlice, newS, effA, ty_zero51, litA, cellsOf, isPure, Nat.reduceMul, Nat.reduceLeDiff, List.contains_nil, unP, ifT, opS_append, appS, effD, newsOf, Nat.reduceEqDiff, ty_by51, lc_allp, lc_len, eL, allcons, allnil, and_true, killO, lc_kill, lcZ_snoc, take_snoc (f r) hsj, wrS, killTV, killAV, Nat.reduceBEq]; (with_reducible refine hK _ ?_))
          show WpA _ _ _ _
          ((refine WpA_lreg [] [] (by simp) fun K hK => ?_); simp (disch := omega) only [kc, prep1, effM, ofConst, Value.oneCell', evBin, wrapI]; (with_reducible refine hK _ ?_))
          refine ⟨⟨j + 1, by omega⟩, by simp only; omega, Weak_sub ⟨rfl, rfl, trivial⟩ ?_⟩
          simp [wkL, okTV, okAV]
        · have hjc : j = cs.length := by omega
          subst hjc
          (refine WpA_sreg [] [] (by simp) fun K hK => ?_; simp (disch := omega) only [kc, prep1, slM, slN, Hm, effM, evBin, decF]; (with_reducible refine hK _ ?_))
          refine WpA_seq (WpA_cond rfl (fun h => by simp at h <;> omega) (fun _ => WpA_exit ?_))
          show WpA _ _ _ _
          refine WpA.weak ((Weak_fz 34 (fzOk_one rfl)).trans (Weak_sub (tm := [slM (mat n c f), slN rs, slN cs, jk, jk, jk, .raw (.slice none 0 0), .one (.sl 39 0 0 i), jk, jk, .one (.p (.sl (ls fZ (cs.map (f r))))), jk, jk, slN rs, .raw (.int .i64 (rs.length : Int)), .raw (.int .i64 (i : Int)), jk, jk, jk, jk, jk, jk, jk, jk, jk, jk, jk, jk, jk, jk, jk, jk, jk, jk, jk, jk, jk, jk, jk, jk, jk, jk]) (l := [(39, [⟨120, 1, lc (fR fZ) ((rs.take i).map fun i => cs.map (f i))⟩])]) ⟨rfl, trivial⟩ (by simp [wkL, okTV, okAV, fzTV, fzAV, Hm, lc_take, lc_cellF, List.take_of_length_le]))) ?_
          have eL : ((rs.take i).map fun i => cs.map (f i)).length = i := by simp; omega
          have eS := take_snoc (fun i => cs.map (f i)) hri
          ((refine WpA_lreg [] [] (by simp) fun K hK => ?_); simp (disch := omega) only [kc, prep1, Nat.reduceAdd, slM, slN, Hm, opS_buildSlice, newS, effA, ty_slice62, ty_zero120, ty_sz120, litA, cellsOf, isPure, Nat.reduceMul, Nat.reduceLeDiff, List.contains_nil, unP, ifT, opS_append, appS, effD, newsOf, ty_by120, lc_allp, lc_len, eL, allcons, allnil, and_true, killO, lc_kill, lcR_snoc, eS, wrS, killTV, killAV]; (with_reducible refine hK _ ?_))
          show WpA _ _ _ _
          ((refine WpA_lreg [] [] (by simp) fun K hK => ?_); simp (disch := omega) only [kc, prep1, effM, ofConst, Value.oneCell', evBin, wrapI]; (with_reducible refine hK _ ?_))
          refine ⟨⟨i + 1, by omega⟩, by simp only; omega, Weak_sub ⟨rfl, trivial⟩ ?_⟩
          simp [wkL, okTV, okAV]
    · have hin : i = rs.length := by omega
      subst hin
      (refine WpA_sreg [] [] (by simp) fun K hK => ?_; simp (disch := omega) only [kc, prep1, slM, slN, Hm, effM, evBin, decF]; (with_reducible refine hK _ ?_))
      refine WpA_seq (WpA_cond rfl (fun h => by simp at h <;> omega) (fun _ => WpA_exit ?_))
      show WpA _ _ _ _
      (refine WpA_sreg [] [] (by simp) fun K hK => ?_; simp (disch := omega) only [kc, prep1]; (with_reducible refine hK _ ?_))
      refine WpA_ret ⟨.inr rfl, ret_fz 39 (fzOk_one rfl) ?_ rfl⟩
      have eT : List.take rs.length (List.map (fun i => cs.map (f i)) rs) = rs.map fun i => cs.map (f i) := List.take_of_length_le (by simp)
      simp (disch := omega) only [kc, resA, Tryz.results147, resOne, List.take_length, fzTV, fzAV, ifT, lc_take, eT, lc_cellF, slM]
end Go.Proofs.YtennjcjjegbhgaaGreat
namespace Go.Proofs.YtennjcjjegbhgaaGreat
open Go.RowKit
abbrev nilC : List AV := [.raw (.slice none 0 0)]
theorem mid_get {α : Type} {A : List α} {x : α} {l : List α} {i : Nat} (h : A.length = i) : (A ++ x :: l)[i]? = some x := by
  rw [List.getElem?_append_right (by omega), h, Nat.sub_self]; rfl
theorem mid_set {α : Type} {A : List α} {x y : α} {l : List α} {i : Nat} (h : A.length = i) : (A ++ x :: l).set i y = A ++ y :: l := by
  rw [List.set_append_right _ _ (by omega), h, Nat.sub_self]; rfl
theorem rwO_kill (k : Nat → Nat → Bool) (R : List (List Int)) : (R.map rwO).map (killO k) = R.map rwO := by
  rw [List.map_map]
  exact List.map_congr_left fun r _ => by simp [killO, rwO, lc_kill]
theorem spn_kill (d i c : Nat) : (spn d (List.replicate i c)).map (List.map (killAV fun x y => x == d && y == i + 1)) = spn d (List.replicate i c) := by
  apply List.ext_getElem?
  intro k
  rw [List.getElem?_map]
  by_cases h : k < i
  · rw [spn_get d c h]
    have : k ≠ i := by omega
    simp [killAV, this]
  · rw [List.getElem?_eq_none (by rw [spn_len, List.length_replicate]; omega)]; rfl
def cpO (d n c : Nat) (f : Nat → Nat → Int) (i : Nat) : List OObj := ⟨120, 1, spn d (List.replicate i c) ++ List.replicate (n - i) nilC⟩ :: (mat i c f).map rwO
def cpI (d n c : Nat) (f : Nat → Nat → Int) (i j : Nat) : List OObj := ⟨120, 1, spn d (List.replicate i c) ++ [.sl d (i + 1) 0 (j + 1)] :: List.replicate (n - i - 1) nilC⟩ :: ((mat i c f).map rwO ++ [rwO (rowF (j + 1) (f i))])
def cpS (d n c : Nat) (f : Nat → Nat → Int) (i : Nat) : Nat → List OObj
  | 0 => cpO d n c f i
  | j + 1 => cpI d n c f i j
theorem mat_snoc (i c : Nat) (f : Nat → Nat → Int) : mat (i + 1) c f = mat i c f ++ [rowF c (f i)] := by simp [mat, List.range_succ]
theorem rowF_snoc (j : Nat) (g : Nat → Int) : rowF (j + 1) g = rowF j g ++ [g j] := by simp [rowF, List.range_succ]
theorem cp_row {d n c i : Nat} (f : Nat → Nat → Int) (hc : 1 ≤ c) (hi : i < n) : cpS d n c f i c = cpO d n c f (i + 1) := by
  obtain ⟨j, rfl⟩ : ∃ j, c = j + 1 := ⟨c - 1, by omega⟩
  show cpI d n (j + 1) f i j = _
  unfold cpI cpO
  rw [mat_snoc, List.replicate_succ' (n := i), spn_snoc, List.length_replicate]
  simp [Nat.sub_sub]
theorem cp_end (d n c : Nat) (f : Nat → Nat → Int) : cpO d n c f n = mxF d n c f := by
  unfold cpO; simp
theorem cp_open {d n c i : Nat} (f : Nat → Nat → Int) (hi : i < n) : cpO d n c f i = ⟨120, 1, spn d (List.replicate i c) ++ nilC :: List.replicate (n - i - 1) nilC⟩ :: (mat i c f).map rwO := by
  unfold cpO
  rw [show n - i = n - i - 1 + 1 by omega, List.replicate_succ]; rfl
set_option maxRecDepth 100000 in
set_option maxHeartbeats 4000000 in
theorem Copy_C (n c : Nat) (f : Nat → Nat → Int) (hn : n ≤ 17) (hc1 : 1 ≤ c) (hc : c ≤ 17) (hf : ∀ i j, i < n → j < c → Bg (f i j)) :
    CallC Tryz.prog 73 [slM (mat n c f)] ⟨mxF 0 n c f, .one (.sl 0 0 0 n)⟩ := by
  have hml := mat_len n c f
  refine callC_of Tryz.func73 rfl (by kernel_rfl) ?_; rw [Tryz.ntmps73]
  (refine WpA_sreg [] [] (by simp) fun K hK => ?_; simp (disch := omega) only [kc, prep1, slM, List.replicate, ofConst, Value.oneCell']; (with_reducible refine hK _ ?_))
  (refine WpA_sreg [] [] (by simp) fun K hK => ?_; simp (disch := omega) only [kc, prep1, Nat.reduceAdd, opS_len, effR, ty_slice62, ls_len, hml, opS_makeSlice, newS, effA, ty_zero120, ty_sz120, ty_by120, Int.natCast_nonneg, Value.oneCell', and_true, ifT]; (with_reducible refine hK _ ?_))
  (refine WpA_seq (WpA_sreg [] [] (by simp) fun K hK => ?_); simp (disch := omega) only [kc, prep1, Nat.reduceAdd, opS_len, effR, ty_slice62, ls_len, hml, ofConst, Value.oneCell']; (with_reducible refine hK _ ?_))
  refine WpA_forb (G := FiG n) (fun g => ⟨[slM (mat n c f), jk, .raw (.slice none 0 0), .one (.sl 9 0 0 n), jk, jk, jk, jk, jk, jk, jk, .raw (.int .i64 (n : Int)), .raw (.int .i64 (g.i : Int)), jk, jk, jk, jk, jk, jk, jk, jk, jk, jk, jk, jk, jk, jk, jk, jk, jk, jk, jk, jk, jk, jk, jk, jk, jk], Hm [(9, cpO 9 n c f g.i)]⟩) (fun g => n - g.i) ⟨0, by omega⟩ ?_ ?_
  · refine Weak_sub ⟨?_, trivial⟩ ?_
    · show [_] = _
      simp [cpO, spn, mat]
    · simp [wkL, okTV, okAV]
  · rintro ⟨i, hi⟩
    simp only
    by_cases hm : i < n
    · have hrow := mat_get c f hm
      have hmi := mat_len i c f
      have hsl : (spn 9 (List.replicate i c)).length = i := by rw [spn_len, List.length_replicate]
      have hrl : ((mat i c f).map rwO).length = i := by rw [List.length_map, hmi]
      (refine WpA_sreg [] [] (by simp) fun K hK => ?_; simp (disch := omega) only [kc, prep1, slM, Hm, effM, evBin, decT]; (with_reducible refine hK _ ?_))
      refine WpA_seq (WpA_cond rfl (fun _ => WpA_skip ?_) (fun h => by simp at h <;> omega))
      refine WpA_seq (WpA_block ?_)
      (refine WpA_sreg [] [] (by simp) fun K hK => ?_; simp (disch := omega) only [kc, prep1]; (with_reducible refine hK _ ?_))
      (refine WpA_sreg [] [] (by simp) fun K hK => ?_; simp (disch := omega) only [kc, prep1, Nat.reduceAdd, opS_indexAddr, effR, natOf_pos, ty_slice62, ls_get, hrow, fR, ty_sz120, packT, ty_agg120, opS_len, ty_slice120, ls_len, rowF_len, ofConst, Value.oneCell']; (with_reducible refine hK _ ?_))
      refine WpA_forb (G := FiG c) (fun g => ⟨[slM (mat n c f), jk, .raw (.slice none 0 0), .one (.sl 9 0 0 n), .raw (.int .i64 (i : Int)), jk, jk, jk, jk, jk, jk, .raw (.int .i64 (n : Int)), .raw (.int .i64 (i : Int)), jk, jk, jk, jk, jk, .one (.p (.sl (ls fZ (rowF c (f i))))), .raw (.int .i64 (c : Int)), .raw (.int .i64 (g.i : Int)), jk, jk, jk, jk, jk, jk, jk, jk, jk, jk, jk, jk, jk, jk, jk, jk, jk], Hm [(9, cpS 9 n c f i g.i)]⟩) (fun g => c - g.i) ⟨0, by omega⟩ ?_ ?_
      · refine Weak_sub ⟨rfl, trivial⟩ ?_
        simp [wkL, okTV, okAV]
      · rintro ⟨j, hj⟩
        simp only
        by_cases hm2 : j < c
        · have hent := rowF_get (f i) hm2
          have hN := norm_C (f i j) (hf i j hm hm2)
          cases j with
          | zero =>
            rw [cpS, cp_open f hm]
            (refine WpA_sreg [] [] (by simp) fun K hK => ?_; simp (disch := omega) only [kc, prep1, slM, Hm, effM, evBin, decT]; (with_reducible refine hK _ ?_))
            refine WpA_seq (WpA_cond rfl (fun _ => WpA_skip ?_) (fun h => by simp at h <;> omega))
            refine WpA_seq (WpA_block ?_)
            (refine WpA_sreg [] [] (by simp) fun K hK => ?_; simp (disch := omega) only [kc, prep1, Nat.reduceAdd, opS_indexAddr, effR, natOf_pos, ty_slice120, ls_get, hent, fZ, ty_sz51, packT, ty_agg51, Nat.le_refl, opS_alloc, newS, effA, ty_zero51, Value.oneCell', ifT, Nat.reduceEqDiff, opS_store, wrS, effD, updH, cellsOf, isPure, putCells, killTV, killAV]; (with_reducible refine hK _ ?_))
            ((refine WpA_ldraw mixedA [⟨7, _, _, _, hN⟩] [] (by kernel_rfl) (by simp) fun K hK => ?_); simp (disch := omega) only [kc, tZ, CItem.a, prep1, Nat.reduceAdd, opS_indexAddr, effR, natOf_pos, ty_slice62, updH, Nat.reduceEqDiff, ifF, ty_sz120, ifT, mid_get hsl, packT, ty_agg120, ty_sz51, ty_agg51, Nat.le_refl, opS_call, newS, effA, List.find?_cons, evAll, norm, CallRes.plain, rawTV, rawAV, normOk, isPure, noRefTV, noRefAV, renTV, renAV, opS_buildSlice, ty_slice120, ty_zero51, litA, cellsOf, Nat.reduceMul, Nat.reduceLeDiff, List.contains_nil, unP, opS_append, appS, effD, newsOf, ty_by51, allcons, allnil, and_true, opS_store, wrS, putCells, mid_set hsl, List.length_map, hmi, killTV, killAV, Nat.reduceBEq]; (with_reducible refine hK _ ?_))
            show WpA _ _ _ _
            ((refine WpA_lreg [] [] (by simp) fun K hK => ?_); simp (disch := omega) only [kc, prep1, effM, ofConst, Value.oneCell', evBin, wrapI]; (with_reducible refine hK _ ?_))
            refine ⟨⟨1, by omega⟩, by simp only; omega, Weak_sub ⟨?_, trivial⟩ ?_⟩
            · rfl
            · simp [wkL, okTV, okAV]
          | succ j =>
            have h01 : (0 == i + 1) = false := by simp
            rw [cpS, cpI]
            (refine WpA_sreg [] [] (by simp) fun K hK => ?_; simp (disch := omega) only [kc, prep1, slM, Hm, effM, evBin, decT]; (with_reducible refine hK _ ?_))
            refine WpA_seq (WpA_cond rfl (fun _ => WpA_skip ?_) (fun h => by simp at h <;> omega))
            refine WpA_seq (WpA_block ?_)
            (refine WpA_sreg [] [] (by simp) fun K hK => ?_; simp (disch := omega) only [kc, prep1, Nat.reduceAdd, opS_indexAddr, effR, natOf_pos, ty_slice120, ls_get, hent, fZ, ty_sz51, packT, ty_agg51, Nat.le_refl, opS_alloc, newS, effA, ty_zero51, Value.oneCell', ifT, Nat.reduceEqDiff, opS_store, wrS, effD, updH, cellsOf, isPure, putCells, killTV, killAV]; (with_reducible refine hK _ ?_))
            ((refine WpA_ldraw mixedA [⟨7, _, _, _, hN⟩] [] (by kernel_rfl) (by simp) fun K hK => ?_); simp (disch := omega) only [kc, tZ, CItem.a, prep1, Nat.reduceAdd, rwO, opS_indexAddr, effR, natOf_pos, ty_slice62, updH, Nat.reduceEqDiff, ifF, ty_sz120, ifT, mid_get hsl, packT, ty_agg120, ty_sz51, ty_agg51, Nat.le_refl, opS_call, newS, effA, List.find?_cons, evAll, norm, CallRes.plain, rawTV, rawAV, normOk, isPure, noRefTV, noRefAV, renTV, renAV, opS_buildSlice, ty_slice120, ty_zero51, litA, cellsOf, Nat.reduceMul, Nat.reduceLeDiff, List.contains_nil, unP, opS_append, appS, effD, newsOf, mid_get hrl, ty_by51, lc_allp, lc_len, rowF_len, allcons, allnil, and_true, killO, List.map_append, spn_kill, killAV, List.map_replicate, rwO_kill, lc_kill, lcZ_snoc, mid_set hrl, wrS, killTV, h01, Nat.reduceBEq, opS_store, putCells, mid_set hsl, reduceCtorEq, false_and, List.length_append, hrl]; (with_reducible refine hK _ ?_))
            show WpA _ _ _ _
            ((refine WpA_lreg [] [] (by simp) fun K hK => ?_); simp (disch := omega) only [kc, prep1, effM, ofConst, Value.oneCell', evBin, wrapI]; (with_reducible refine hK _ ?_))
            refine ⟨⟨j + 1 + 1, by omega⟩, by simp only; omega, Weak_sub ⟨?_, trivial⟩ ?_⟩
            · show _ = cpI 9 n c f i (j + 1)
              rw [cpI, rwO, rowF_snoc (j + 1)]; rfl
            · simp [wkL, okTV, okAV]
        · have hjc : j = c := by omega
          subst hjc
          (refine WpA_sreg [] [] (by simp) fun K hK => ?_; simp (disch := omega) only [kc, prep1, slM, Hm, effM, evBin, decF]; (with_reducible refine hK _ ?_))
          refine WpA_seq (WpA_cond rfl (fun h => by simp at h <;> omega) (fun _ => WpA_exit ?_))
          show WpA _ _ _ _
          rw [cp_row f hc1 hm]
          ((refine WpA_lreg [] [] (by simp) fun K hK => ?_); simp (disch := omega) only [kc, prep1, effM, ofConst, Value.oneCell', evBin, wrapI]; (with_reducible refine hK _ ?_))
          refine ⟨⟨i + 1, by omega⟩, by simp only; omega, Weak_sub ⟨rfl, trivial⟩ ?_⟩
          simp [wkL, okTV, okAV]
    · have hin : i = n := by omega
      subst hin
      (refine WpA_sreg [] [] (by simp) fun K hK => ?_; simp (disch := omega) only [kc, prep1, slM, Hm, effM, evBin, decF]; (with_reducible refine hK _ ?_))
      refine WpA_seq (WpA_cond rfl (fun h => by simp at h <;> omega) (fun _ => WpA_exit ?_))
      show WpA _ _ _ _
      rw [cp_end]
      (refine WpA_sreg [] [] (by simp) fun K hK => ?_; simp (disch := omega) only [kc, prep1]; (with_reducible refine hK _ ?_))
      refine WpA_ret ⟨.inr rfl, _, Weak.refl _, ?_⟩
      refine ⟨.one (.sl 9 0 0 i), 9, ?_, rfl, ?_, rfl⟩
      · simp (disch := omega) only [resA, Tryz.results73, resOne, List.getElem?_cons_succ, List.getElem?_cons_zero]
      · exact (mxF_ren 9 0 _ _ _).symm
end Go.Proofs.YtennjcjjegbhgaaGreat
namespace Go.Proofs.YtennjcjjegbhgaaGreat
open Go.RowKit
theorem WpA_cut {P : Program} {c z : Code} {Q : Exit → AS → Prop} {s S : AS} (h1 : WpA P c (thenA (fun s' => Weak s' S) Q) s) (h2 : WpA P z Q S) : WpA P c (thenA (WpA P z Q) Q) s := h1.mono fun e s' h => by
  cases e with
  | normal => exact WpA.weak h h2
  | _ => exact h
theorem Sz.mul {a b : Int} {k l : Nat} (ha : Sz a k) (hb : Sz b l) : Sz (a * b) (k + l) := by
  unfold Sz at *; rw [Int.natAbs_mul, Nat.pow_add]; exact Nat.mul_lt_mul'' ha hb
theorem Sz.sub {a b : Int} {k : Nat} (ha : Sz a k) (hb : Sz b k) : Sz (a - b) (k + 1) := by
  unfold Sz at *
  have := Int.natAbs_sub_le a b
  rw [Nat.pow_succ]
  generalize 4294967296 ^ k = p at *
  omega
theorem Sz.add {a b : Int} {k : Nat} (ha : Sz a k) (hb : Sz b k) : Sz (a + b) (k + 1) := by
  unfold Sz at *
  have := Int.natAbs_add_le a b
  rw [Nat.pow_succ]
  generalize 4294967296 ^ k = p at *
  omega
theorem Sz.ediv {a : Int} {k : Nat} (ha : Sz a k) (b : Int) : Sz (a / b) k := ha.le (Int.natAbs_ediv_le_natAbs a b)
theorem piv_ne {f : Nat → Nat → Int} {n k : Nat} : ∀ m p, n - p = m → piv f n k p < n → p ≤ piv f n k p ∧ f (piv f n k p) k ≠ 0
  | 0, p, hm, h => by rw [piv_end (by omega)] at h; omega
  | m + 1, p, hm, h => by
    by_cases h0 : f p k = 0
    · rw [piv_lo (by omega) h0] at h ⊢
      have := piv_ne m (p + 1) (by omega) h
      exact ⟨by omega, this.2⟩
    · rw [piv_hi (by omega) h0] at h ⊢
      exact ⟨by omega, h0⟩
theorem piv_le {f : Nat → Nat → Int} {n k : Nat} : ∀ m p, n - p = m → piv f n k p ≤ n
  | 0, p, hm => by rw [piv_end (by omega)]; omega
  | m + 1, p, hm => by
    by_cases h0 : f p k = 0
    · rw [piv_lo (by omega) h0]; exact piv_le m (p + 1) (by omega)
    · rw [piv_hi (by omega) h0]; omega
def npart (k : Nat) (last : Int) (g : Nat → Nat → Int) (i j : Nat) : Nat → Nat → Int := fun a b => if k < a ∧ k < b ∧ (a < i ∨ (a = i ∧ b < j)) then (g k k * g a b - g a k * g k b) / last else g a b
theorem np_step {k i j : Nat} (last : Int) (g : Nat → Nat → Int) (hi : k < i) (hj : k < j) (a b : Nat) : upd (npart k last g i j) i j ((g k k * g i j - g i k * g k j) / last) a b = npart k last g i (j + 1) a b := by
  unfold upd npart
  by_cases h1 : a = i
  · subst h1
    by_cases h2 : b = j
    · subst h2; simp [hi, hj]
    · have : b < j + 1 ↔ b < j := by omega
      simp [h2, this]
  · simp [h1]
theorem np_row {k n : Nat} (last : Int) (g : Nat → Nat → Int) (i a b : Nat) (hb : b < n) : npart k last g i n a b = npart k last g (i + 1) (k + 1) a b := by
  unfold npart
  have : (k < a ∧ k < b ∧ (a < i ∨ a = i ∧ b < n)) ↔ (k < a ∧ k < b ∧ (a < i + 1 ∨ a = i + 1 ∧ b < k + 1)) := by omega
  simp only [this]
theorem np_zero (k : Nat) (last : Int) (g : Nat → Nat → Int) : npart k last g (k + 1) (k + 1) = g := by
  funext a b
  unfold npart
  rw [if_neg (by omega)]
theorem np_end {k n : Nat} (last : Int) (g : Nat → Nat → Int) (a b : Nat) (ha : a < n) : npart k last g n (k + 1) a b = nxt k last g a b := by
  unfold npart nxt
  have : (k < a ∧ k < b ∧ (a < n ∨ a = n ∧ b < k + 1)) ↔ (k < a ∧ k < b) := by omega
  simp only [this]
theorem np_same {k i j a b : Nat} (last : Int) (g : Nat → Nat → Int) (h : ¬ (k < a ∧ k < b ∧ (a < i ∨ (a = i ∧ b < j)))) : npart k last g i j a b = g a b := by
  unfold npart; rw [if_neg h]
theorem mx_swap {d n p k : Nat} (g : Nat → Nat → Int) (hp : p < n) (hk : k < n) (hne : k ≠ p) (r : Nat) : (mxF d n n (swp p k g))[r]? =
    (((⟨120, 1, ((spn d (List.replicate n n)).set p [.sl d (k + 1) 0 n]).set k [.sl d (p + 1) 0 n]⟩ :: (mat n n g).map rwO : List OObj))[sw (p + 1) (k + 1) r]?).map (swO d (p + 1) (k + 1)) := by
  cases r with
  | zero =>
    rw [show sw (p + 1) (k + 1) 0 = 0 by simp [sw]]
    simp only [List.getElem?_cons_zero, Option.map_some, swO]
    congr 2
    apply List.ext_getElem?
    intro i
    rw [List.getElem?_map, List.getElem?_set, List.getElem?_set, List.length_set, spn_len, List.length_replicate]
    by_cases hi : i < n
    · rw [spn_get d n hi]
      by_cases h1 : k = i
      · subst h1
        simp [hi, swAV, ixS, sw]
      · by_cases h2 : p = i
        · subst h2
          simp [h1, hi, swAV, ixS, sw]
        · have h1' : ¬ i = k := fun e => h1 e.symm
          have h2' : ¬ i = p := fun e => h2 e.symm
          simp [h1, h2, h1', h2', swAV, ixS, sw]
    · have h1 : ¬ k = i := by omega
      have h2 : ¬ p = i := by omega
      rw [if_neg h1, if_neg h2, List.getElem?_eq_none (by rw [spn_len, List.length_replicate]; omega)]; rfl
  | succ r =>
    have hsw : sw (p + 1) (k + 1) (r + 1) = sw p k r + 1 := by
      unfold sw
      by_cases h1 : r = p
      · simp [h1]
      · by_cases h2 : r = k
        · simp [h1, h2, hne]
        · simp [h1, h2]
    have hO : ∀ l : List Int, swO d (p + 1) (k + 1) (rwO l) = rwO l := fun l => by
      simp only [swO, rwO, lc, List.map_map]
      congr 1
    rw [hsw, List.getElem?_cons_succ, List.getElem?_cons_succ, List.getElem?_map, List.getElem?_map]
    by_cases hr : r < n
    · have hs : sw p k r < n := by unfold sw; split <;> (try split) <;> omega
      rw [mat_get _ _ hr, mat_get _ _ hs]
      simp only [Option.map_some, hO]
      congr 3
      unfold swp sw
      by_cases h1 : r = p
      · simp [h1]
      · by_cases h2 : r = k
        · simp [h1, h2, hne]
        · simp [h1, h2]
    · have hs : ¬ sw p k r < n := by unfold sw; rw [if_neg (by omega), if_neg (by omega)]; exact hr
      rw [List.getElem?_eq_none (by rw [mat_len]; omega), List.getElem?_eq_none (by rw [mat_len]; omega)]; rfl
structure DeG (n : Nat) (f : Nat → Nat → Int) where
  k : Nat
  g : Nat → Nat → Int
  last : Int
  neg : Bool
  b : Nat
  hk : k ≤ n
  hv : detG n k g last neg = detF n f
  hl : last ≠ 0
  hb : b + 1 ≤ 1025 * 2 ^ k
  sg : ∀ i j, i < n → j < n → Sz (g i j) b
  sl : Sz last b
structure PvG (n k : Nat) (g : Nat → Nat → Int) where
  p : Nat
  hkp : k ≤ p
  hp : p ≤ n
  hv : piv g n k p = piv g n k k
structure NxG (n k : Nat) where
  i : Nat
  hk : k + 1 ≤ i
  hi : i ≤ n
abbrev bxV (v : Int) : List OObj := bxZ (decide (v < 0)) (limbs v.natAbs)
theorem sg_zero : sg 0 = 0 := rfl
theorem sg_ne {z : Int} (h : z ≠ 0) : sg z ≠ 0 := by unfold sg; split <;> simp [h]
theorem pow_bound {k : Nat} (h : k ≤ 16) : 2 ^ k ≤ 65536 := Nat.pow_le_pow_right (n := 2) (by omega) h
set_option maxRecDepth 100000 in
set_option maxHeartbeats 8000000 in
theorem Determinant_C (n : Nat) (f : Nat → Nat → Int) (hn1 : 1 ≤ n) (hn : n ≤ 16) (hf : ∀ i j, i < n → j < n → Sz (f i j) 1024) :
    CallC Tryz.prog 117 [slM (mat n n f)] ⟨[], tZ (detF n f)⟩ := by
  have hC := Copy_C n n f (by omega) hn1 (by omega) (fun i j hi hj => (hf i j hi hj).mono (by omega))
  have hS := small_C 1 (by omega) (by omega)
  refine callC_of Tryz.func117 rfl (by kernel_rfl) ?_; rw [Tryz.ntmps117]
  (refine WpA_sreg [] [] (by simp) fun K hK => ?_; simp (disch := omega) only [kc, prep1, slM, List.replicate, opS_alloc, newS, effA, ty_zero51, Value.oneCell', Nat.reduceAdd, ifT]; (with_reducible refine hK _ ?_))
  (refine WpA_sreg [⟨1, _, _, _, hC⟩] [] (by simp) fun K hK => ?_; simp (disch := omega) only [kc, slM, CItem.a, prep1, Nat.reduceAdd, opS_call, newS, effA, List.find?_cons, evAll, norm, CallRes.plain, List.isEmpty_cons, rawTV, rawAV, normOk, Bool.not_false, noRefTV, noRefAV, Bool.or_false, renTV, renAV, renO, updH, Nat.reduceEqDiff]; (with_reducible refine hK _ ?_))
  (refine WpA_sreg [] [] (by simp) fun K hK => ?_; simp (disch := omega) only [kc, prep1, Nat.reduceAdd, opS_len, effR, ty_slice62]; (with_reducible refine hK _ ?_))
  (refine WpA_sreg [⟨0, _, _, _, hS⟩] [] (by simp) fun K hK => ?_; simp (disch := omega) only [kc, tZ, decF, CItem.a, prep1, Nat.reduceAdd, opS_call, newS, effA, List.find?_cons, evAll, ofConst, Value.oneCell', norm, CallRes.plain, rawTV, rawAV, normOk, noRefTV, noRefAV, renTV, renAV, opS_alloc, ty_zero51, ifT, updH, Nat.reduceEqDiff, ifF, opS_store, wrS, effD, ty_sz51, cellsOf, Nat.le_refl, isPure, putCells, killTV, killAV]; (with_reducible refine hK _ ?_))
  (refine WpA_seq (WpA_sreg [] [] (by simp) fun K hK => ?_); simp (disch := omega) only [kc, prep1, ofConst, Value.oneCell']; (with_reducible refine hK _ ?_))
  refine WpA_forb (G := DeG n f) (fun g => ⟨[jk, jk, .one (.ptr 2 0 0 0), .one (.sl 12 0 0 n), .raw (.int .i64 (n : Int)), .one (.ptr 5 0 0 0), .raw (.bool g.neg), .raw (.int .i64 (g.k : Int)), jk, jk, jk, jk, jk, jk, jk, jk, jk, jk, jk, jk, jk, jk, jk, jk, jk, jk, jk, jk, jk, jk, jk, jk, jk, jk, jk, jk, jk, jk, jk, jk, jk, jk, jk, jk, jk, jk, jk, jk, jk, jk, jk, jk, jk, jk, jk, jk, jk, jk, jk, jk, jk, jk, jk, jk, jk, jk, jk, jk, jk, jk, jk, jk, jk, jk, jk, jk, jk, jk, jk, jk, jk, jk, jk, jk, jk, jk, jk, jk, jk, jk, jk, jk, jk, jk, jk, jk, jk, jk, jk, jk, jk, jk, jk, jk, jk, jk, jk, jk, jk, jk, jk, jk, jk, jk, jk, jk, jk, jk, jk, jk, jk, jk, jk, jk, jk], Hm [(2, bx0), (5, bxV g.last), (12, mxF 12 n n g.g)]⟩) (fun g => n - g.k) ⟨0, f, 1, false, 1024, by omega, rfl, by omega, by omega, hf, sz_one (by omega)⟩ ?_ ?_
  · refine Weak_sub ⟨rfl, rfl, ?_, trivial⟩ ?_
    · exact mxF_ren 0 12 n n f
    · simp [wkL, okTV, okAV]
  · rintro ⟨k, g, last, neg, b, hk, hv, hl, hb, sgz, slz⟩
    simp only
    by_cases hm : k < n
    · have h2k := pow_bound (k := k) (by omega)
      have hbb : b ≤ 67174400 := by omega
      have hvk : detG n k g last neg = if piv g n k k = n then 0 else detG n (k + 1) (nxt k last (pvt n k g)) (pvt n k g k k) (neg != decide (k < piv g n k k)) := by rw [detG, if_pos hm]
      (refine WpA_seq (WpA_sreg [] [] (by simp) fun K hK => ?_); simp (disch := omega) only [kc, prep1, Nat.reduceAdd, Hm, effM, evBin, decT]; (with_reducible refine hK _ ?_))
      refine WpA_cond rfl (fun _ => WpA_skip ?_) (fun h => by simp at h <;> omega)
      refine WpA_seq (WpA_block ?_)
      (refine WpA_sreg [] [] (by simp) fun K hK => ?_; simp (disch := omega) only [kc, prep1]; (with_reducible refine hK _ ?_))
      refine WpA_seq (WpA_cut (S := ⟨[jk, jk, .one (.ptr 2 0 0 0), .one (.sl 12 0 0 n), .raw (.int .i64 (n : Int)), .one (.ptr 5 0 0 0), .raw (.bool neg), .raw (.int .i64 (k : Int)), .raw (.int .i64 ((piv g n k k : Nat) : Int)), jk, jk, jk, jk, jk, jk, jk, jk, jk, jk, jk, jk, jk, jk, jk, jk, jk, jk, jk, jk, jk, jk, jk, jk, jk, jk, jk, jk, jk, jk, jk, jk, jk, jk, jk, jk, jk, jk, jk, jk, jk, jk, jk, jk, jk, jk, jk, jk, jk, jk, jk, jk, jk, jk, jk, jk, jk, jk, jk, jk, jk, jk, jk, jk, jk, jk, jk, jk, jk, jk, jk, jk, jk, jk, jk, jk, jk, jk, jk, jk, jk, jk, jk, jk, jk, jk, jk, jk, jk, jk, jk, jk, jk, jk, jk, jk, jk, jk, jk, jk, jk, jk, jk, jk, jk, jk, jk, jk, jk, jk, jk, jk, jk, jk, jk, jk], Hm [(2, bx0), (5, bxV last), (12, mxF 12 n n g)]⟩) ?_ ?_)
      · refine WpA_forb (G := PvG n k g) (fun q => ⟨[jk, jk, .one (.ptr 2 0 0 0), .one (.sl 12 0 0 n), .raw (.int .i64 (n : Int)), .one (.ptr 5 0 0 0), .raw (.bool neg), .raw (.int .i64 (k : Int)), .raw (.int .i64 (q.p : Int)), jk, jk, jk, jk, jk, jk, jk, jk, jk, jk, jk, jk, jk, jk, jk, jk, jk, jk, jk, jk, jk, jk, jk, jk, jk, jk, jk, jk, jk, jk, jk, jk, jk, jk, jk, jk, jk, jk, jk, jk, jk, jk, jk, jk, jk, jk, jk, jk, jk, jk, jk, jk, jk, jk, jk, jk, jk, jk, jk, jk, jk, jk, jk, jk, jk, jk, jk, jk, jk, jk, jk, jk, jk, jk, jk, jk, jk, jk, jk, jk, jk, jk, jk, jk, jk, jk, jk, jk, jk, jk, jk, jk, jk, jk, jk, jk, jk, jk, jk, jk, jk, jk, jk, jk, jk, jk, jk, jk, jk, jk, jk, jk, jk, jk, jk, jk], Hm [(2, bx0), (5, bxV last), (12, mxF 12 n n g)]⟩) (fun q => n - q.p) ⟨k, by omega, by omega, rfl⟩ ?_ ?_
        · refine Weak_sub ⟨rfl, rfl, rfl, trivial⟩ ?_
          simp [wkL, okTV, okAV]
        · rintro ⟨p, hkp, hp, hpv⟩
          simp only
          by_cases hpn : p < n
          · have g1 := spn_get (n := n) (i := p) 12 n hpn
            have g2 := mxr_get n g hpn
            have g3 := rowF_get (g p) hm
            have hSg := sign_C (g p k) ((sgz p k hpn hm).mono (by omega))
            by_cases h0 : g p k = 0
            · rw [h0] at hSg g3
              (refine WpA_seq (WpA_sreg [⟨11, _, _, _, hSg⟩] [] (by simp) fun K hK => ?_); simp (disch := omega) only [kc, tZ, decF, sg_zero, CItem.a, prep1, Nat.reduceAdd, Hm, effM, evBin, decT, stS_guard, opS_indexAddr, effR, natOf_pos, ty_slice62, Nat.reduceEqDiff, ifT, ifF, ty_sz120, g1, packT, ty_agg120, ty_slice120, g2, ty_sz51, lc_get, fZ, g3, ty_agg51, Nat.le_refl, opS_call, newS, effA, List.find?_cons, evAll, norm, CallRes.plain, rawTV, rawAV, normOk, isPure, noRefTV, noRefAV, renTV, renAV, ofConst, Value.oneCell', opS_pick]; (with_reducible refine hK _ ?_))
              refine WpA_cond rfl (fun _ => WpA_skip ?_) (fun h => by simp at h)
              refine WpA_block ?_
              ((refine WpA_lreg [] [] (by simp) fun K hK => ?_); simp (disch := omega) only [kc, prep1, Nat.reduceAdd, effM, ofConst, Value.oneCell', evBin, wrapI]; (with_reducible refine hK _ ?_))
              refine ⟨⟨p + 1, by omega, by omega, ?_⟩, by simp only; omega, Weak_sub ⟨rfl, rfl, rfl, trivial⟩ ?_⟩
              · rw [← hpv, piv_lo hpn h0]
              · simp [wkL, okTV, okAV]
            · have hs0 := sg_ne h0
              (refine WpA_seq (WpA_sreg [⟨11, _, _, _, hSg⟩] [] (by simp) fun K hK => ?_); simp (disch := omega) only [kc, tZ, CItem.a, prep1, Nat.reduceAdd, Hm, effM, evBin, decT, stS_guard, opS_indexAddr, effR, natOf_pos, ty_slice62, Nat.reduceEqDiff, ifT, ifF, ty_sz120, g1, packT, ty_agg120, ty_slice120, g2, ty_sz51, lc_get, fZ, g3, ty_agg51, Nat.le_refl, opS_call, newS, effA, List.find?_cons, evAll, norm, CallRes.plain, rawTV, rawAV, normOk, isPure, noRefTV, noRefAV, renTV, renAV, ofConst, Value.oneCell', decF, opS_pick]; (with_reducible refine hK _ ?_))
              refine WpA_cond rfl (fun h => by simp at h <;> omega) (fun _ => WpA_exit ?_)
              show Weak _ _
              have hpe : piv g n k k = p := by rw [← hpv, piv_hi hpn h0]
              refine Weak_sub ⟨rfl, rfl, rfl, trivial⟩ ?_
              simp [wkL, okTV, okAV, hpe]
          · have hpe : piv g n k k = p := by rw [← hpv, piv_end hpn]; omega
            (refine WpA_seq (WpA_sreg [] [] (by simp) fun K hK => ?_); simp (disch := omega) only [kc, prep1, Nat.reduceAdd, Hm, effM, evBin, decF, stS_guard, opS_indexAddr, effR, Option.map_none, opS_call, newS, effA, List.find?_nil, evAll, ofConst, Value.oneCell', opS_pick]; (with_reducible refine hK _ ?_))
            refine WpA_cond rfl (fun h => by simp at h) (fun _ => WpA_exit ?_)
            show Weak _ _
            refine Weak_sub ⟨rfl, rfl, rfl, trivial⟩ ?_
            simp [wkL, okTV, okAV, hpe]
      · have hpl := piv_le (f := g) (n := n) (k := k) (n - k) k rfl
        have hpn' := piv_ne (f := g) (n := n) (k := k) (n - k) k rfl
        generalize hpp : piv g n k k = p at *
        by_cases hpn : p = n
        · rw [if_pos hpn] at hvk
          (refine WpA_seq (WpA_sreg [] [] (by simp) fun K hK => ?_); simp (disch := omega) only [kc, prep1, Nat.reduceAdd, Hm, effM, evBin, decT]; (with_reducible refine hK _ ?_))
          refine WpA_cond rfl (fun _ => ?_) (fun h => by simp at h <;> omega)
          (refine WpA_sreg [] [] (by simp) fun K hK => ?_; simp (disch := omega) only [kc, prep1, opS_build, effR, ty_zero51, ty_plc51, Value.oneCell', fillA, opS_store, wrS, effD, ty_sz51, Nat.reduceEqDiff, ifF, cellsOf, Nat.reduceAdd, Nat.le_refl, isPure, ifT, putCells, killTV, killAV]; (with_reducible refine hK _ ?_))
          refine WpA.weak (Weak_zH 2) ?_
          refine WpA_ret ⟨.inr rfl, ret_now rfl ?_ rfl⟩
          rw [← hv, hvk]
          simp (disch := omega) only [kc, resA, Tryz.results117, resOne, zH, updH, Nat.reduceEqDiff, ifF, ifT, zO, zAV, zPV, packT, ty_sz51, ty_agg51, Nat.reduceAdd, Nat.le_refl, tZ, decF]
          simp [limbs_zero, ls]
        · rw [if_neg hpn] at hvk
          obtain ⟨hkp, hpk0⟩ := hpn' (by omega)
          (refine WpA_seq (WpA_sreg [] [] (by simp) fun K hK => ?_); simp (disch := omega) only [kc, prep1, Nat.reduceAdd, Hm, effM, evBin, decF]; (with_reducible refine hK _ ?_))
          refine WpA_cond rfl (fun h => by simp at h <;> omega) (fun _ => WpA_skip ?_)
          show WpA _ _ _ _
          (refine WpA_seq (WpA_sreg [] [] (by simp) fun K hK => ?_); simp (disch := omega) only [kc, prep1, Nat.reduceAdd, effM, evBin]; (with_reducible refine hK _ ?_))
          refine WpA_cut (S := ⟨[jk, jk, .one (.ptr 2 0 0 0), .one (.sl 12 0 0 n), .raw (.int .i64 (n : Int)), .one (.ptr 5 0 0 0), .raw (.bool (neg != decide (k < p))), .raw (.int .i64 (k : Int)), jk, jk, jk, jk, jk, jk, jk, jk, jk, jk, jk, jk, jk, jk, jk, jk, jk, jk, jk, jk, jk, jk, jk, jk, jk, jk, jk, jk, jk, jk, jk, jk, jk, jk, jk, jk, jk, jk, jk, jk, jk, jk, jk, jk, jk, jk, jk, jk, jk, jk, jk, jk, jk, jk, jk, jk, jk, jk, jk, jk, jk, jk, jk, jk, jk, jk, jk, jk, jk, jk, jk, jk, jk, jk, jk, jk, jk, jk, jk, jk, jk, jk, jk, jk, jk, jk, jk, jk, jk, jk, jk, jk, jk, jk, jk, jk, jk, jk, jk, jk, jk, jk, jk, jk, jk, jk, jk, jk, jk, jk, jk, jk, jk, jk, jk, jk, jk], Hm [(2, bx0), (5, bxV last), (12, mxF 12 n n (swp p k g))]⟩) ?_ ?_
          · by_cases hlt : k < p
            · have g1 := spn_get (n := n) (i := p) 12 n (by omega)
              have g2 := spn_get (n := n) (i := k) 12 n (by omega)
              refine WpA_cond rfl (fun _ => ?_) (fun h => by simp at h <;> omega)
              have g4 : ((spn 12 (List.replicate n n)).set p [.sl 12 (k + 1) 0 n])[k]? = some [.sl 12 (k + 1) 0 n] := by
                rw [List.getElem?_set_ne (by omega), g2]
              (refine WpA_sdraw mixedA [] [] (by kernel_rfl) (by simp) fun K hK => ?_; simp (disch := omega) only [kc, prep1, Nat.reduceAdd, decT, opS_indexAddr, effR, natOf_pos, ty_slice62, Nat.reduceEqDiff, ifF, ty_sz120, ifT, g2, packT, ty_agg120, g1, opS_store, wrS, effD, putCells, killTV, killAV, updH, g4, reduceCtorEq, false_and, List.length_map]; (with_reducible refine hK _ ?_))
              ((refine WpA_lreg [] [] (by simp) fun K hK => ?_); simp (disch := omega) only [kc, prep1, Nat.reduceAdd, opS_un, effM, evUn]; (with_reducible refine hK _ ?_))
              refine (Weak_sw 12 (p + 1) (k + 1) (mxF 12 n n (swp p k g)) (mx_swap g (by omega) hm (by omega))).trans (Weak_sub ⟨rfl, rfl, rfl, trivial⟩ ?_)
              simp [wkL, okTV, okAV, swTV, swAV, ixS, sw, hlt]
            · have hpk : p = k := by omega
              subst hpk
              refine WpA_cond rfl (fun h => by simp at h <;> omega) (fun _ => WpA_skip ?_)
              show Weak _ _
              rw [swp_self]
              refine Weak_sub ⟨rfl, rfl, rfl, trivial⟩ ?_
              simp [wkL, okTV, okAV]
          · rw [pvt, hpp] at hvk
            have hkk : swp p k g k k ≠ 0 := by
              unfold swp
              by_cases h : k = p
              · subst h; rw [if_pos rfl]; exact hpk0
              · rw [if_neg h, if_pos rfl]; exact hpk0
            have hsz : ∀ i j, i < n → j < n → Sz (swp p k g i j) b := fun i j hi hj => by
              unfold swp
              split
              · exact sgz k j hm hj
              · split
                · exact sgz p j (by omega) hj
                · exact sgz i j hi hj
            generalize swp p k g = g' at *
            generalize (neg != decide (k < p)) = neg' at *
            (refine WpA_seq (WpA_sreg [] [] (by simp) fun K hK => ?_); simp (disch := omega) only [kc, prep1, Nat.reduceAdd, Hm, effM, ofConst, Value.oneCell', evBin, wrapI]; (with_reducible refine hK _ ?_))
            refine WpA_forb (G := NxG n k) (fun q => ⟨[jk, jk, .one (.ptr 2 0 0 0), .one (.sl 12 0 0 n), .raw (.int .i64 (n : Int)), .one (.ptr 5 0 0 0), .raw (.bool neg'), .raw (.int .i64 (k : Int)), jk, .raw (.int .i64 (q.i : Int)), jk, jk, jk, jk, jk, jk, jk, jk, jk, jk, jk, jk, jk, jk, jk, jk, jk, jk, jk, jk, jk, jk, jk, jk, jk, jk, jk, jk, jk, jk, jk, jk, jk, jk, jk, jk, jk, jk, jk, jk, jk, jk, jk, jk, jk, jk, jk, jk, jk, jk, jk, jk, jk, jk, jk, jk, jk, jk, jk, jk, jk, jk, jk, jk, jk, jk, jk, jk, jk, jk, jk, jk, jk, jk, jk, jk, jk, jk, jk, jk, jk, jk, jk, jk, jk, jk, jk, jk, jk, jk, jk, jk, jk, jk, jk, jk, jk, jk, jk, jk, jk, jk, jk, jk, jk, jk, jk, jk, jk, jk, jk, jk, jk, jk, jk], Hm [(2, bx0), (5, bxV last), (12, mxF 12 n n (npart k last g' q.i (k + 1)))]⟩) (fun q => n - q.i) ⟨k + 1, by omega, by omega⟩ ?_ ?_
            · rw [np_zero]
              refine Weak_sub ⟨rfl, rfl, rfl, trivial⟩ ?_
              simp [wkL, okTV, okAV]
            · rintro ⟨i, hki, hin⟩
              simp only
              by_cases hi : i < n
              · (refine WpA_seq (WpA_sreg [] [] (by simp) fun K hK => ?_); simp (disch := omega) only [kc, prep1, Nat.reduceAdd, Hm, effM, evBin, decT]; (with_reducible refine hK _ ?_))
                refine WpA_cond rfl (fun _ => WpA_skip ?_) (fun h => by simp at h <;> omega)
                refine WpA_seq (WpA_block ?_)
                (refine WpA_sreg [] [] (by simp) fun K hK => ?_; simp (disch := omega) only [kc, prep1, Nat.reduceAdd, effM, ofConst, Value.oneCell', evBin, wrapI]; (with_reducible refine hK _ ?_))
                refine WpA_forb (G := NxG n k) (fun q => ⟨[jk, jk, .one (.ptr 2 0 0 0), .one (.sl 12 0 0 n), .raw (.int .i64 (n : Int)), .one (.ptr 5 0 0 0), .raw (.bool neg'), .raw (.int .i64 (k : Int)), jk, .raw (.int .i64 (i : Int)), .raw (.int .i64 (q.i : Int)), jk, jk, jk, jk, jk, jk, jk, jk, jk, jk, jk, jk, jk, jk, jk, jk, jk, jk, jk, jk, jk, jk, jk, jk, jk, jk, jk, jk, jk, jk, jk, jk, jk, jk, jk, jk, jk, jk, jk, jk, jk, jk, jk, jk, jk, jk, jk, jk, jk, jk, jk, jk, jk, jk, jk, jk, jk, jk, jk, jk, jk, jk, jk, jk, jk, jk, jk, jk, jk, jk, jk, jk, jk, jk, jk, jk, jk, jk, jk, jk, jk, jk, jk, jk, jk, jk, jk, jk, jk, jk, jk, jk, jk, jk, jk, jk, jk, jk, jk, jk, jk, jk, jk, jk, jk, jk, jk, jk, jk, jk, jk, jk, jk, jk], Hm [(2, bx0), (5, bxV last), (12, mxF 12 n n (npart k last g' i q.i))]⟩) (fun q => n - q.i) ⟨k + 1, by omega, by omega⟩ ?_ ?_
                · refine Weak_sub ⟨rfl, rfl, rfl, trivial⟩ ?_
                  simp [wkL, okTV, okAV]
                · rintro ⟨j, hkj, hjn⟩
                  simp only
                  by_cases hj : j < n
                  · have a1 := spn_get (n := n) (i := i) 12 n hi
                    have a2 := spn_get (n := n) (i := k) 12 n hm
                    have a3 := mxr_get n (npart k last g' i j) hi
                    have a4 := mxr_get n (npart k last g' i j) hm
                    have a5 : (rowF n (npart k last g' i j k))[k]? = some (g' k k) := by rw [rowF_get _ hm, np_same _ _ (by omega)]
                    have a6 : (rowF n (npart k last g' i j i))[j]? = some (g' i j) := by rw [rowF_get _ hj, np_same _ _ (by omega)]
                    have a7 : (rowF n (npart k last g' i j i))[k]? = some (g' i k) := by rw [rowF_get _ hm, np_same _ _ (by omega)]
                    have a8 : (rowF n (npart k last g' i j k))[j]? = some (g' k j) := by rw [rowF_get _ hj, np_same _ _ (by omega)]
                    have z1 := hsz k k hm hm
                    have z2 := hsz i j hi hj
                    have z3 := hsz i k hi hm
                    have z4 := hsz k j hm hj
                    have c1 := Mul_C (g' k k) (g' i j) (z1.mono (by omega)) (z2.mono (by omega))
                    have c2 := Mul_C (g' i k) (g' k j) (z3.mono (by omega)) (z4.mono (by omega))
                    have c3 := Sub_C (g' k k * g' i j) (g' i k * g' k j) ((z1.mul z2).mono (by omega)) ((z3.mul z4).mono (by omega))
                    have c4 := Quo_C (g' k k * g' i j - g' i k * g' k j) last hl (((z1.mul z2).sub (z3.mul z4)).mono (by omega)) (slz.mono (by omega))
                    (refine WpA_seq (WpA_sreg [] [] (by simp) fun K hK => ?_); simp (disch := omega) only [kc, prep1, Nat.reduceAdd, Hm, effM, evBin, decT]; (with_reducible refine hK _ ?_))
                    refine WpA_cond rfl (fun _ => WpA_skip ?_) (fun h => by simp at h <;> omega)
                    refine WpA_seq (WpA_block ?_)
                    ((refine WpA_ldraw mixedA [⟨19, _, _, _, c1⟩, ⟨34, _, _, _, c2⟩, ⟨35, _, _, _, c3⟩, ⟨37, _, _, _, c4⟩] [] (by kernel_rfl) (by simp) fun K hK => ?_); simp (disch := omega) only [kc, tZ, CItem.a, prep1, Nat.reduceAdd, opS_indexAddr, effR, natOf_pos, ty_slice62, Nat.reduceEqDiff, ifF, ty_sz120, ifT, a1, packT, ty_agg120, a2, ty_slice120, a4, ty_sz51, lc_get, fZ, a5, ty_agg51, Nat.le_refl, a3, a6, opS_call, newS, effA, List.find?_cons, evAll, norm, CallRes.plain, rawTV, rawAV, normOk, isPure, noRefTV, noRefAV, renTV, renAV, a7, a8, Nat.reduceBEq, opS_store, wrS, effD, cellsOf, putCells, mxr_set, killTV, killAV]; (with_reducible refine hK _ ?_))
                    show WpA _ _ _ _
                    ((refine WpA_lreg [] [] (by simp) fun K hK => ?_); simp (disch := omega) only [kc, prep1, Nat.reduceAdd, effM, ofConst, Value.oneCell', evBin, wrapI]; (with_reducible refine hK _ ?_))
                    refine ⟨⟨j + 1, by omega, by omega⟩, by simp only; omega, Weak_sub ⟨rfl, rfl, ?_, trivial⟩ ?_⟩
                    · show _ :: _ = _ :: _
                      rw [mxr_congr fun a b _ _ => np_step last g' hki hkj a b]
                    · simp [wkL, okTV, okAV]
                  · have hjn' : j = n := by omega
                    subst hjn'
                    (refine WpA_seq (WpA_sreg [] [] (by simp) fun K hK => ?_); simp (disch := omega) only [kc, prep1, Nat.reduceAdd, Hm, effM, evBin, decF]; (with_reducible refine hK _ ?_))
                    refine WpA_cond rfl (fun h => by simp at h <;> omega) (fun _ => WpA_exit ?_)
                    show WpA _ _ _ _
                    ((refine WpA_lreg [] [] (by simp) fun K hK => ?_); simp (disch := omega) only [kc, prep1, Nat.reduceAdd, effM, ofConst, Value.oneCell', evBin, wrapI]; (with_reducible refine hK _ ?_))
                    refine ⟨⟨i + 1, by omega, by omega⟩, by simp only; omega, Weak_sub ⟨rfl, rfl, ?_, trivial⟩ ?_⟩
                    · show _ :: _ = _ :: _
                      rw [mxr_congr fun a b _ hb => np_row last g' i a b hb]
                    · simp [wkL, okTV, okAV]
              · have hin' : i = n := by omega
                subst hin'
                have a2 := spn_get (n := i) (i := k) 12 i hm
                have a4 := mxr_get i (npart k last g' i (k + 1)) hm
                have a5 : (rowF i (npart k last g' i (k + 1) k))[k]? = some (g' k k) := by rw [rowF_get _ hm, np_same _ _ (by omega)]
                (refine WpA_seq (WpA_sreg [] [] (by simp) fun K hK => ?_); simp (disch := omega) only [kc, prep1, Nat.reduceAdd, Hm, effM, evBin, decF]; (with_reducible refine hK _ ?_))
                refine WpA_cond rfl (fun h => by simp at h <;> omega) (fun _ => WpA_exit ?_)
                show WpA _ _ _ _
                ((refine WpA_lreg [] [] (by simp) fun K hK => ?_); simp (disch := omega) only [kc, prep1, Nat.reduceAdd, opS_indexAddr, effR, natOf_pos, ty_slice62, Nat.reduceEqDiff, ifF, ty_sz120, ifT, a2, packT, ty_agg120, ty_slice120, a4, ty_sz51, lc_get, fZ, a5, ty_agg51, Nat.le_refl, opS_store, wrS, effD, cellsOf, isPure, putCells, killTV, killAV]; (with_reducible refine hK _ ?_))
                show WpA _ _ _ _
                ((refine WpA_lreg [] [] (by simp) fun K hK => ?_); simp (disch := omega) only [kc, prep1, Nat.reduceAdd, effM, ofConst, Value.oneCell', evBin, wrapI]; (with_reducible refine hK _ ?_))
                refine ⟨⟨k + 1, nxt k last g', g' k k, neg', 2 * b + 1, by omega, by rw [← hvk, hv], hkk, by rw [Nat.pow_succ]; omega, fun x y hx hy => ?_, (hsz k k hm hm).mono (by omega)⟩, by simp only; omega, Weak_sub ⟨rfl, rfl, ?_, trivial⟩ ?_⟩
                · unfold nxt
                  split
                  · exact ((((hsz k k hm hm).mul (hsz x y hx hy)).sub ((hsz x k hx hm).mul (hsz k y hm hy))).ediv last).mono (by omega)
                  · exact (hsz x y hx hy).mono (by omega)
                · show _ :: _ = _ :: _
                  rw [mxr_congr fun a b ha _ => np_end last g' a b ha]
                · simp [wkL, okTV, okAV]
    · have hkn : k = n := by omega
      subst hkn
      rw [detG, if_neg hm] at hv
      have h2k := pow_bound (k := k) hn
      have hN := neg_C last (slz.mono (by omega))
      (refine WpA_seq (WpA_sreg [] [] (by simp) fun K hK => ?_); simp (disch := omega) only [kc, prep1, Nat.reduceAdd, Hm, effM, evBin, decF]; (with_reducible refine hK _ ?_))
      refine WpA_cond rfl (fun h => by simp at h <;> omega) (fun _ => WpA_exit ?_)
      show WpA _ _ _ _
      (refine WpA_seq (WpA_sreg [] [] (by simp) fun K hK => ?_); simp (disch := omega) only [kc, prep1]; (with_reducible refine hK _ ?_))
      cases neg with
      | true =>
        rw [if_pos rfl] at hv
        refine WpA_cond rfl (fun _ => ?_) (fun h => by simp at h)
        (refine WpA_sreg [⟨1, _, _, _, hN⟩] [] (by simp) fun K hK => ?_; simp (disch := omega) only [kc, tZ, CItem.a, prep1, Nat.reduceAdd, effR, Nat.reduceEqDiff, ifF, packT, ty_sz51, ty_agg51, Nat.le_refl, opS_call, newS, effA, List.find?_cons, evAll, norm, CallRes.plain, rawTV, rawAV, normOk, isPure, noRefTV, noRefAV, renTV, renAV, opS_store, wrS, effD, cellsOf, ifT, putCells, killTV, killAV]; (with_reducible refine hK _ ?_))
        rw [← hv]
        (refine WpA_ret ⟨.inr rfl, ret_now rfl ?_ rfl⟩; simp (disch := omega) only [kc, resA, Tryz.results117, resOne, updH, Nat.reduceEqDiff, ifF, packT, ty_sz51, ty_agg51, Nat.reduceAdd, Nat.le_refl, tZ])
      | false =>
        rw [if_neg (by simp)] at hv
        refine WpA_cond rfl (fun h => by simp at h) (fun _ => WpA_skip ?_)
        show WpA _ _ _ _
        (refine WpA_sreg [] [] (by simp) fun K hK => ?_; simp (disch := omega) only [kc, prep1, effR, Nat.reduceEqDiff, ifF, packT, ty_sz51, ty_agg51, Nat.reduceAdd, Nat.le_refl, opS_store, wrS, effD, cellsOf, isPure, ifT, putCells, killTV, killAV]; (with_reducible refine hK _ ?_))
        rw [← hv]
        (refine WpA_ret ⟨.inr rfl, ret_now rfl ?_ rfl⟩; simp (disch := omega) only [kc, resA, Tryz.results117, resOne, updH, Nat.reduceEqDiff, ifF, packT, ty_sz51, ty_agg51, Nat.reduceAdd, Nat.le_refl, tZ])
end Go.Proofs.YtennjcjjegbhgaaGreat
namespace Go.Proofs.YtennjcjjegbhgaaGreat
open Go.RowKit
section
variable {P : Program}
theorem runL_suf {items : List (Item P)} (hI : ItemsOk P items) {ow : List Nat} {ops : Array Oper} {w0 : World} {O X : Nat → Prop} {Q : Exit → Act → World → Prop} {suf : List Nat} : ∀ (l : List Oper) (k : Nat) (s s' : AS) (a : Act) (w : World), (∀ (j : Nat) o, l[j]? = some o → ops[k + j]? = some o) →
    runL P items ow ops (l.zipIdx k) s = some s' → Rel w0 O X s a w → (∀ a' w', Rel w0 O X s' a' w' → wpOps P ops Q suf a' w') → wpOps P ops Q (List.range' k l.length ++ suf) a w
  | [], k, s, s', a, w, _, h, r, hQ => by
    simp only [List.zipIdx_nil, runL] at h
    injection h with h
    subst h
    exact hQ a w r
  | o :: l, k, s, s', a, w, hl, h, r, hQ => by
    simp only [List.zipIdx_cons, runL] at h
    split at h
    · rename_i s1 hs1
      simp only [List.length_cons, List.range'_succ, List.cons_append, wpOps]
      have ho : ops[k]? = some o := by have := hl 0 o rfl; simpa using this
      rw [ho]
      simp only
      have := absStep_wp (Q := Q) hI r hs1 (K := wpOps P ops Q (List.range' (k + 1) l.length ++ suf)) (fun v w' hr => runL_suf hI l (k + 1) s1 s' _ _ (fun j o hj => by have := hl (j + 1) o (by simpa using hj); rwa [show k + (j + 1) = k + 1 + j by omega] at this) h hr hQ)
      split at this
      · rename_i hw; rw [if_pos hw]; exact .inl this
      · rename_i hw; rw [if_neg hw]; exact this
    · cases h
theorem WpA_region2 (m : Nat) (items : List (Item P)) (hI : ItemsOk P items) (ow : List Nat) {id : Nat} {ops : Array Oper} {s s1 s2 s' : AS} {Q : Exit → AS → Prop} (h1 : runL P items ow ops ((ops.toList.take m).zipIdx 0) s = some s1) (hw : Weak s1 s2)
    (h2 : runL P items ow ops ((ops.toList.drop m).zipIdx (ops.toList.take m).length) s2 = some s') (hQ : Q .normal s') : WpA P (.region id ops false) Q s := fun w0 O X a w r => by
  refine wp_region ?_
  have hsz : ops.size = (ops.toList.take m).length + (ops.toList.drop m).length := by simp; omega
  rw [hsz, List.range_eq_range', ← List.range'_append_1, Nat.zero_add]
  refine runL_suf hI (ops.toList.take m) 0 s s1 a w (fun j o hj => ?_) h1 r fun a' w' r' => ?_
  · rw [List.getElem?_take] at hj
    split at hj
    · simpa using hj
    · cases hj
  · refine runL_wpOps hI (Q := fun e a' w' => ∃ s', Q e s' ∧ Rel w0 O X s' a' w') (ops.toList.drop m) _ s2 s' a' w' (fun j o hj => ?_) h2 (hw _ _ _ _ _ r') (fun a' w' hr => ⟨s', hQ, hr⟩)
    rw [List.getElem?_drop] at hj
    have hlt := (List.getElem?_eq_some_iff.1 hj).1
    have hm : (ops.toList.take m).length = m := by
      rw [List.length_take]; omega
    rw [hm]
    simpa using hj
theorem WpA_wsreg (m : Nat) (items : List (CItem P)) (ow : List Nat) {id : Nat} {ops : Array Oper} {y : Code} {s : AS} {Q : Exit → AS → Prop} (hl : s.tmps.length ≤ 1000000) (hm : m ≤ ops.toList.length)
    (h : ∀ K : AS → Prop, (∀ s1, (∃ s2, Weak s1 s2 ∧ s2.tmps.length ≤ 1000000 ∧ ∀ K : AS → Prop, (∀ s', WpA P y Q s' → K s') → runS P (items.map CItem.a) ow (prepL ops (ops.toList.drop m) m) (some s2) K) → K s1) → runS P (items.map CItem.a) ow (prepL ops (ops.toList.take m) 0) (some s) K) : WpA P (.seq (.region id ops false) y) Q s := by
  obtain ⟨s1, h1, s2, hw, hl2, h2⟩ := runS_sound P (items.map CItem.a) ow ops _ 0 s _ hl (h _ fun _ h => h)
  obtain ⟨s', h3, h4⟩ := runS_sound P (items.map CItem.a) ow ops _ m s2 _ hl2 (h2 _ fun _ h => h)
  refine WpA_seq (WpA_region2 m _ (CItem.ok items) ow h1 hw ?_ h4)
  rwa [show (ops.toList.take m).length = m by rw [List.length_take]; omega]
end
end Go.Proofs.YtennjcjjegbhgaaGreat
