/-
  Part 9 of a proof (walks and plain facts).
-/
import Derived.Test.YtennjcjjegbhgaaGreatP07
set_option linter.all false
namespace Go.Proofs.YtennjcjjegbhgaaGreat
open Go.RowKit
theorem cmpU_ge {a b : Nat} (h : b ≤ a) : 0 ≤ cmpU a b := by unfold cmpU; split <;> (try split) <;> omega
theorem cmpU_neg {a b : Nat} (h : a < b) : cmpU a b < 0 := by rw [cmpU_lt h]; decide
abbrev divR (a b : Nat) : TV := .tup [(false, [.p (.sl (ls fU (limbs (a / b))))]), (false, [.p (.sl (ls fU (limbs (a % b))))])]
theorem len_le {a b : Nat} (h : a ≤ b) : (limbs a).length ≤ (limbs b).length := natV_le_len (lmb_limbs _) (can_limbs _) (by rw [natV_limbs, natV_limbs]; exact h)
set_option maxRecDepth 100000 in
set_option maxHeartbeats 4000000 in
theorem divide_C (a b : Nat) (hb : 0 < b) (la : (limbs a).length ≤ 536870912) (lb : (limbs b).length ≤ 536870912) : CallC Tryz.prog 185 [slU (limbs a), slU (limbs b)] ⟨[], divR a b⟩ := by
  by_cases hs : (limbs a).length ≤ 2 ∧ (limbs b).length ≤ 2
  · obtain ⟨sa, sb⟩ := hs
    have ua := limbs_short sa
    have ub := limbs_short sb
    have h1 := low_C (limbs a) (lmb_limbs _) (by omega)
    have h2 := low_C (limbs b) (lmb_limbs _) (by omega)
    rw [List.take_of_length_le sa, natV_limbs] at h1
    rw [List.take_of_length_le sb, natV_limbs] at h2
    have hq : a / b ≤ a := Nat.div_le_self _ _
    have hr : a % b < b := Nat.mod_lt _ hb
    have h3 := word_C false (a / b) (by omega)
    have h4 := word_C false (a % b) (by omega)
    rw [show sgn false (a / b) = ((a / b : Nat) : Int) from rfl] at h3
    rw [show sgn false (a % b) = ((a % b : Nat) : Int) from rfl] at h4
    have hb0 : (b : Int) ≠ 0 := by omega
    have e1 : IntKind.u64.wrap (Int.tdiv (a : Int) (b : Int)) = ((a / b : Nat) : Int) := by
      rw [Int.tdiv_eq_ediv_of_nonneg (by omega), ← Int.natCast_ediv]; generalize a / b = q at *; rw [IntKind.wrap_u64]; omega
    have e2 : Int.tmod (a : Int) (b : Int) = ((a % b : Nat) : Int) := by
      rw [Int.tmod_eq_emod_of_nonneg (by omega), ← Int.natCast_emod]
    unfold divR
    generalize a / b = q at *
    generalize a % b = r at *
    refine callC_of Tryz.func185 rfl (by kernel_rfl) ?_; rw [Tryz.ntmps185]
    (refine WpA_sreg [] [] (by simp) fun K hK => ?_; simp (disch := omega) only [kc, prep1, slU, Nat.reduceAdd, List.replicate, ofConst, Value.oneCell']; (with_reducible refine hK _ ?_))
    (refine WpA_seq (WpA_sreg [] [] (by simp) fun K hK => ?_); simp (disch := omega) only [kc, prep1, Nat.reduceAdd, opS_len, effR, ty_slice49, ls_len, effM, ofConst, Value.oneCell', evBin, decT, stS_guard, ifT, opS_pick]; (with_reducible refine hK _ ?_))
    refine WpA_cond rfl (fun _ => ?_) (fun h => by simp at h <;> omega)
    (refine WpA_sreg [⟨1, _, _, _, h1⟩, ⟨3, _, _, _, h2⟩] [] (by simp) fun K hK => ?_; simp (disch := omega) only [kc, slU, CItem.a, prep1, Nat.reduceAdd, opS_call, newS, effA, List.find?_cons, evAll, norm, CallRes.plain, rawTV, rawAV, normOk, noRefTV, noRefAV, renTV, renAV, Nat.reduceBEq]; (with_reducible refine hK _ ?_))
    (refine WpA_sdraw mixedA [⟨3, _, _, _, h3⟩, ⟨8, _, _, _, h4⟩] [] (by kernel_rfl) (by simp) fun K hK => ?_; simp (disch := omega) only [kc, tZ, decF, Int.natAbs_natCast, CItem.a, prep1, Nat.reduceAdd, effM, evBin, ne_eq, hb0, not_false_eq_true, e1, opS_call, newS, effA, List.find?_cons, evAll, ofConst, Value.oneCell', norm, CallRes.plain, rawTV, rawAV, normOk, noRefTV, noRefAV, renTV, renAV, opS_field, effR, ty_fld51_1, packT, ty_sz49, ty_agg49, e2, Nat.reduceBEq]; (with_reducible refine hK _ ?_))
    (refine WpA_ret ⟨.inr rfl, ret_now rfl ?_ rfl⟩; simp (disch := omega) only [resA, Tryz.results185, resL, resOne, List.getElem?_cons_succ, List.getElem?_cons_zero, Option.bind_some, tvPair, Option.map_some])
  · refine callC_of Tryz.func185 rfl (by kernel_rfl) ?_; rw [Tryz.ntmps185]
    (refine WpA_sreg [] [] (by simp) fun K hK => ?_; simp (disch := omega) only [kc, prep1, slU, Nat.reduceAdd, List.replicate, ofConst, Value.oneCell']; (with_reducible refine hK _ ?_))
    by_cases h3 : (limbs a).length ≤ 2
    all_goals
      ((first | refine WpA_sreg [] [] (by simp) fun K hK => ?_ | refine WpA_seq (WpA_sreg [] [] (by simp) fun K hK => ?_) | refine WpA_seq (WpA_seq (WpA_sreg [] [] (by simp) fun K hK => ?_))); simp (disch := omega) only [kc, prep1, Nat.reduceAdd, opS_len, effR, ty_slice49, ls_len, effM, ofConst, Value.oneCell', evBin, decT, stS_guard, ifT, decF, opS_pick, Option.map_none]; (with_reducible refine hK _ ?_))
      refine WpA_cond rfl (fun h => by simp at h <;> omega) (fun _ => WpA_skip ?_)
      show WpA _ _ _ _
      ((first | refine WpA_sreg [] [] (by simp) fun K hK => ?_ | refine WpA_seq (WpA_sreg [] [] (by simp) fun K hK => ?_) | refine WpA_seq (WpA_seq (WpA_sreg [] [] (by simp) fun K hK => ?_))); simp (disch := omega) only [kc, prep1, Nat.reduceAdd, opS_len, effR, ty_slice49, ls_len, opS_makeSlice, newS, effA, ty_zero92, ty_sz92, ty_by92, Int.natCast_nonneg, Value.oneCell', and_true, lcU_rep, ifT]; (with_reducible refine hK _ ?_))
      ((first | refine WpA_sreg [] [] (by simp) fun K hK => ?_ | refine WpA_seq (WpA_sreg [] [] (by simp) fun K hK => ?_) | refine WpA_seq (WpA_seq (WpA_sreg [] [] (by simp) fun K hK => ?_))); simp (disch := omega) only [kc, prep1, Nat.reduceAdd, opS_len, effR, ty_slice49, ls_len, effM, ofConst, Value.oneCell', evBin, wrapI]; (with_reducible refine hK _ ?_))
      refine WpA_forb (G := DivG a b (limbs a).length) (fun g => ⟨[slU (limbs a), slU (limbs b), jk, jk, .one (.sl 33 0 0 (limbs a).length), slU (limbs (a / 2 ^ g.t % b)), jk, jk, .raw (.int .i64 ((g.t : Int) - 1)), jk, jk, jk, jk, jk, jk, jk, jk, jk, jk, jk, jk, jk, jk, jk, jk, jk, jk, jk, jk, jk, jk, jk, jk, jk, jk, jk, jk, jk, jk, jk, jk, jk, jk, jk, jk, jk, jk, jk, jk, jk, jk, jk, jk, jk, jk, jk, jk, jk, jk, jk, jk, jk, jk, jk, jk, jk, jk, jk, jk, jk, jk, jk, jk, jk, jk], Hm [(33, [⟨92, 1, lc fU g.O⟩])]⟩) (fun g => g.t) ⟨32 * (limbs a).length, List.replicate (limbs a).length 0, by omega, by simp, fun x hx => by simp at hx; omega, by rw [natV_rep, div_start rfl]; simp⟩ ?_ ?_
      · refine (Weak_nil (k := 5) (d := 900) 92 1 (by omega) rfl rfl).trans ((Weak_fz 900 (fzOk_one (f := fU) (l := []) rfl)).trans (Weak_sub ⟨rfl, trivial⟩ ?_))
        simp [wkL, okTV, okAV, fzTV, fzAV, div_start rfl, limbs_zero]
        rfl
      · rintro ⟨t, O, ht, len, lmb, val⟩
        simp only
        cases t with
        | zero =>
          have htr := trim_C O (by omega)
          rw [trim_limbs lmb, val] at htr
          simp only [Nat.pow_zero, Nat.div_one, Nat.mul_one] at htr
          simp only [Nat.pow_zero, Nat.div_one]
          ((first | refine WpA_sreg [] [] (by simp) fun K hK => ?_ | refine WpA_seq (WpA_sreg [] [] (by simp) fun K hK => ?_) | refine WpA_seq (WpA_seq (WpA_sreg [] [] (by simp) fun K hK => ?_))); simp (disch := omega) only [kc, prep1, slU, Hm, effM, ofConst, Value.oneCell', evBin, decF]; (with_reducible refine hK _ ?_))
          refine WpA_cond rfl (fun h => by simp at h <;> omega) (fun _ => WpA_exit ?_)
          show WpA _ _ _ _
          refine WpA.weak (Weak_fz 33 (fzOk_one rfl)) ?_
          have eT : List.take (limbs a).length O = O := List.take_of_length_le (by omega)
          simp (disch := omega) only [kc, fzTV, fzAV, ifT, lc_take, eT, lc_cellF]
          ((first | refine WpA_sreg [⟨1, _, _, _, htr⟩] [] (by simp) fun K hK => ?_ | refine WpA_seq (WpA_sreg [⟨1, _, _, _, htr⟩] [] (by simp) fun K hK => ?_) | refine WpA_seq (WpA_seq (WpA_sreg [⟨1, _, _, _, htr⟩] [] (by simp) fun K hK => ?_))); simp (disch := omega) only [kc, slU, CItem.a, prep1, Nat.reduceAdd, opS_call, newS, effA, List.find?_cons, evAll, norm, CallRes.plain, rawTV, rawAV, normOk, noRefTV, noRefAV, renTV, renAV]; (with_reducible refine hK _ ?_))
          (refine WpA_ret ⟨.inr rfl, ret_now rfl ?_ rfl⟩; simp (disch := omega) only [resA, Tryz.results185, resL, resOne, List.getElem?_cons_succ, List.getElem?_cons_zero, Option.bind_some, tvPair, Option.map_some])
        | succ k =>
          have ek : ((k + 1 : Nat) : Int) - 1 = (k : Int) := by omega
          simp only [ek]
          have hki : k / 32 < (limbs a).length := by omega
          obtain ⟨x, hx⟩ := getElem?_of_lt hki
          have hx' := lmb_at (lmb_limbs a) hx
          obtain ⟨y, hy⟩ := getElem?_of_lt (show k / 32 < O.length by omega)
          have hy' := lmb_at lmb hy
          have hbit := bit_digit hx
          have hq : IntKind.i64.wrap (Int.tdiv (k : Int) 32) = ((k / 32 : Nat) : Int) := by
            rw [Int.tdiv_eq_ediv_of_nonneg (by omega), IntKind.wrap_i64]; omega
          have hr : Int.tmod (k : Int) 32 = ((k % 32 : Nat) : Int) := by rw [Int.tmod_eq_emod_of_nonneg (by omega)]; omega
          have hmin : min (k % 32) IntKind.u32.bits = k % 32 := by show min (k % 32) 32 = _; omega
          have e1 : Int.fdiv (x : Int) (2 ^ min (k % 32) IntKind.u32.bits) = ((x / 2 ^ (k % 32) : Nat) : Int) := by
            rw [hmin, Int.fdiv_eq_ediv_of_nonneg _ (Int.pow_nonneg (by omega)), Int.natCast_ediv, Int.natCast_pow]; rfl
          have hxl : x / 2 ^ (k % 32) ≤ x := Nat.div_le_self _ _
          have e2 : IntKind.u32.wrap (((BitVec.ofInt IntKind.u32.bits ((x / 2 ^ (k % 32) : Nat) : Int) &&& BitVec.ofInt IntKind.u32.bits (1 : Int)).toNat : Nat) : Int) = ((a / 2 ^ k % 2 : Nat) : Int) := by
            rw [← hbit, ← Nat.and_one_is_mod]
            exact and32 (x / 2 ^ (k % 32)) 1 (by omega) (by omega)
          have hbl : a / 2 ^ k % 2 < 2 := Nat.mod_lt _ (by omega)
          have hrb : a / 2 ^ (k + 1) % b < b := Nat.mod_lt _ hb
          have lr := len_le (Nat.le_of_lt hrb)
          have h1 := double_C (limbs (a / 2 ^ (k + 1) % b)) (a / 2 ^ k % 2) (lmb_limbs _) (by omega) (by omega)
          have h2 := trim_C (dblL (limbs (a / 2 ^ (k + 1) % b)) (a / 2 ^ k % 2)) (by rw [dblL_len]; omega)
          rw [trim_limbs (lmb_dblL _ _ (lmb_limbs _) (by omega)), natV_dblL _ _ (lmb_limbs _) (by omega), natV_limbs] at h2
          by_cases hge : b ≤ 2 * (a / 2 ^ (k + 1) % b) + a / 2 ^ k % 2
          · obtain ⟨g', q1, q2⟩ := divG_hi hb ht len lmb val hge hy
            have hrest := (div_hi hb hge).2
            have lr' := limbs_len (n := 2 * (a / 2 ^ (k + 1) % b) + a / 2 ^ k % 2) (k := (limbs b).length + 1) (by
              have := natV_lt (lmb_limbs b)
              rw [natV_limbs] at this
              have hlt : ∀ r e P : Nat, r < b → e < 2 → b < P → 2 * r + e < P * 4294967296 := by intros; omega
              exact Nat.lt_of_lt_of_le (hlt _ _ _ hrb hbl this) (Nat.le_of_eq (Nat.pow_succ ..).symm))
            generalize 2 * (a / 2 ^ (k + 1) % b) + a / 2 ^ k % 2 = R at *
            have h3 := cmp_C (limbs R) (limbs b) (lmb_limbs _) (lmb_limbs _) (can_limbs _) (can_limbs _) (by omega) (by omega)
            rw [natV_limbs, natV_limbs] at h3
            have hc := cmpU_ge hge
            have h4 := difference_C (limbs R) (limbs b) (lmb_limbs _) (lmb_limbs _) (by omega) (by omega)
            have h5 := trim_C (diffL (limbs R) (limbs b) 0) (by rw [diffL_len]; omega)
            have hd := natV_diffL (limbs R) (limbs b) 0 (lmb_limbs _) (lmb_limbs _) (by omega) (len_le hge) (by rw [natV_limbs, natV_limbs]; exact hge)
            rw [natV_limbs, natV_limbs] at hd
            rw [trim_limbs (lmb_diffL _ _ _), show natV (diffL (limbs R) (limbs b) 0) = a / 2 ^ k % b by omega] at h5
            have hp2 : 2 ^ (k % 32) < 4294967296 := Nat.pow_lt_pow_right (a := 2) (n := 32) (by omega) (Nat.mod_lt _ (by omega))
            have e3 : IntKind.u32.wrap (1 * 2 ^ min (k % 32) IntKind.u32.bits) = ((2 ^ (k % 32) : Nat) : Int) := by
              rw [hmin, Int.one_mul, show ((2 : Int) ^ (k % 32)) = ((2 ^ (k % 32) : Nat) : Int) by rw [Int.natCast_pow]; rfl, w32, Nat.mod_eq_of_lt hp2]
            have e4 := or32 y (2 ^ (k % 32)) hy' hp2
            ((first | refine WpA_sreg [] [] (by simp) fun K hK => ?_ | refine WpA_seq (WpA_sreg [] [] (by simp) fun K hK => ?_) | refine WpA_seq (WpA_seq (WpA_sreg [] [] (by simp) fun K hK => ?_))); simp (disch := omega) only [kc, prep1, slU, Hm, effM, ofConst, Value.oneCell', evBin, Int.natCast_nonneg, decT]; (with_reducible refine hK _ ?_))
            refine WpA_cond rfl (fun _ => WpA_skip ?_) (fun h => by simp at h <;> omega)
            refine WpA_seq (WpA_block ?_)
            ((first | refine WpA_sreg [⟨10, _, _, _, h1⟩, ⟨11, _, _, _, h2⟩] [] (by simp) fun K hK => ?_ | refine WpA_seq (WpA_sreg [⟨10, _, _, _, h1⟩, ⟨11, _, _, _, h2⟩] [] (by simp) fun K hK => ?_) | refine WpA_seq (WpA_seq (WpA_sreg [⟨10, _, _, _, h1⟩, ⟨11, _, _, _, h2⟩] [] (by simp) fun K hK => ?_))); simp (disch := omega) only [kc, slU, CItem.a, prep1, Nat.reduceAdd, effM, ofConst, Value.oneCell', evBin, hq, ifT, opS_indexAddr, effR, natOf_pos, ty_slice49, ls_get, hx, fU, ty_sz92, packT, ty_agg92, hr, Int.natCast_nonneg, e1, e2, opS_call, newS, effA, List.find?_cons, evAll, norm, CallRes.plain, rawTV, rawAV, normOk, noRefTV, noRefAV, renTV, renAV, Nat.reduceBEq]; (with_reducible refine hK _ ?_))
            ((first | refine WpA_sreg [⟨2, _, _, _, h3⟩] [] (by simp) fun K hK => ?_ | refine WpA_seq (WpA_sreg [⟨2, _, _, _, h3⟩] [] (by simp) fun K hK => ?_) | refine WpA_seq (WpA_seq (WpA_sreg [⟨2, _, _, _, h3⟩] [] (by simp) fun K hK => ?_))); simp (disch := omega) only [kc, slU, CItem.a, prep1, Nat.reduceAdd, opS_call, newS, effA, List.find?_cons, evAll, norm, CallRes.plain, rawTV, rawAV, normOk, noRefTV, noRefAV, renTV, renAV, effM, ofConst, Value.oneCell', evBin, decT]; (with_reducible refine hK _ ?_))
            refine WpA_cond rfl (fun _ => ?_) (fun h => by simp at h <;> omega)
            ((first | refine WpA_sreg [⟨2, _, _, _, h4⟩, ⟨3, _, _, _, h5⟩] [] (by simp) fun K hK => ?_ | refine WpA_seq (WpA_sreg [⟨2, _, _, _, h4⟩, ⟨3, _, _, _, h5⟩] [] (by simp) fun K hK => ?_) | refine WpA_seq (WpA_seq (WpA_sreg [⟨2, _, _, _, h4⟩, ⟨3, _, _, _, h5⟩] [] (by simp) fun K hK => ?_))); simp (disch := omega) only [kc, slU, CItem.a, prep1, Nat.reduceAdd, opS_call, newS, effA, List.find?_cons, evAll, norm, CallRes.plain, rawTV, rawAV, normOk, noRefTV, noRefAV, renTV, renAV, Nat.reduceBEq]; (with_reducible refine hK _ ?_))
            ((refine WpA_ldraw mixedA [] [] (by kernel_rfl) (by simp) fun K hK => ?_); simp (disch := omega) only [kc, prep1, Nat.reduceAdd, effM, ofConst, Value.oneCell', evBin, hq, ifT, opS_indexAddr, effR, natOf_pos, ty_slice49, ty_sz92, lc_get, fU, hy, packT, ty_agg92, hr, Int.natCast_nonneg, e3, e4, opS_store, wrS, effD, cellsOf, Nat.le_refl, isPure, putCells, lcU_set, killTV, killAV]; (with_reducible refine hK _ ?_))
            show WpA _ _ _ _
            ((refine WpA_lreg [] [] (by simp) fun K hK => ?_); simp (disch := omega) only [kc, prep1, Nat.reduceAdd, effM, ofConst, Value.oneCell', evBin, wrapI]; (with_reducible refine hK _ ?_))
            refine ⟨g', by omega, Weak_sub ⟨by rw [q2]; rfl, trivial⟩ ?_⟩
            simp [wkL, okTV, okAV, q1]
          · obtain ⟨g', q1, q2⟩ := divG_lo hb ht len lmb val (by omega)
            have hrest := (div_lo (a := a) (k := k) hb (by omega)).2
            rw [← hrest] at h2 hge
            have lr' := len_le (Nat.le_of_lt (Nat.mod_lt (a / 2 ^ k) hb))
            have h3 := cmp_C (limbs (a / 2 ^ k % b)) (limbs b) (lmb_limbs _) (lmb_limbs _) (can_limbs _) (can_limbs _) (by omega) (by omega)
            rw [natV_limbs, natV_limbs] at h3
            have hc := cmpU_neg (a := a / 2 ^ k % b) (b := b) (by omega)
            ((first | refine WpA_sreg [] [] (by simp) fun K hK => ?_ | refine WpA_seq (WpA_sreg [] [] (by simp) fun K hK => ?_) | refine WpA_seq (WpA_seq (WpA_sreg [] [] (by simp) fun K hK => ?_))); simp (disch := omega) only [kc, prep1, slU, Hm, effM, ofConst, Value.oneCell', evBin, Int.natCast_nonneg, decT]; (with_reducible refine hK _ ?_))
            refine WpA_cond rfl (fun _ => WpA_skip ?_) (fun h => by simp at h <;> omega)
            refine WpA_seq (WpA_block ?_)
            ((first | refine WpA_sreg [⟨10, _, _, _, h1⟩, ⟨11, _, _, _, h2⟩] [] (by simp) fun K hK => ?_ | refine WpA_seq (WpA_sreg [⟨10, _, _, _, h1⟩, ⟨11, _, _, _, h2⟩] [] (by simp) fun K hK => ?_) | refine WpA_seq (WpA_seq (WpA_sreg [⟨10, _, _, _, h1⟩, ⟨11, _, _, _, h2⟩] [] (by simp) fun K hK => ?_))); simp (disch := omega) only [kc, slU, CItem.a, prep1, Nat.reduceAdd, effM, ofConst, Value.oneCell', evBin, hq, ifT, opS_indexAddr, effR, natOf_pos, ty_slice49, ls_get, hx, fU, ty_sz92, packT, ty_agg92, hr, Int.natCast_nonneg, e1, e2, opS_call, newS, effA, List.find?_cons, evAll, norm, CallRes.plain, rawTV, rawAV, normOk, noRefTV, noRefAV, renTV, renAV, Nat.reduceBEq]; (with_reducible refine hK _ ?_))
            ((first | refine WpA_sreg [⟨2, _, _, _, h3⟩] [] (by simp) fun K hK => ?_ | refine WpA_seq (WpA_sreg [⟨2, _, _, _, h3⟩] [] (by simp) fun K hK => ?_) | refine WpA_seq (WpA_seq (WpA_sreg [⟨2, _, _, _, h3⟩] [] (by simp) fun K hK => ?_))); simp (disch := omega) only [kc, slU, CItem.a, prep1, Nat.reduceAdd, opS_call, newS, effA, List.find?_cons, evAll, norm, CallRes.plain, rawTV, rawAV, normOk, noRefTV, noRefAV, renTV, renAV, effM, ofConst, Value.oneCell', evBin, decF]; (with_reducible refine hK _ ?_))
            refine WpA_cond rfl (fun h => by simp at h <;> omega) (fun _ => WpA_skip ?_)
            show WpA _ _ _ _
            ((refine WpA_lreg [] [] (by simp) fun K hK => ?_); simp (disch := omega) only [kc, prep1, Nat.reduceAdd, effM, ofConst, Value.oneCell', evBin, wrapI]; (with_reducible refine hK _ ?_))
            refine ⟨g', by omega, Weak_sub ⟨by rw [q2]; rfl, trivial⟩ ?_⟩
            simp [wkL, okTV, okAV, q1]
end Go.Proofs.YtennjcjjegbhgaaGreat
namespace Go.Proofs.YtennjcjjegbhgaaGreat
open Go.RowKit
theorem szOne {P : Program} {p q t n : Nat} (h : szO P t = some n) (hn : n ≠ 1) : ∀ x ∈ [(p, q, t)], szO P x.2.2 ≠ some 1 := fun x hx => by
  have : x = (p, q, t) := by simpa using hx
  subst this
  rw [h]
  intro h'
  injection h' with h'
  exact hn h'
theorem sepOne {s : AS} {p q t a r i j b r' i' j' : Nat} (h1 : s.tmps[p]? = some (.one (.ptr a r i j))) (h2 : s.tmps[q]? = some (.one (.ptr b r' i' j'))) (hne : b ≠ a) : SepS [(p, q, t)] s := fun x hx a2 r2 i2 j2 b2 r3 i3 j3 g1 g2 => by
  have : x = (p, q, t) := by simpa using hx
  subst this
  simp only [h1] at g1
  simp only [h2] at g2
  injection g1 with g1; injection g1 with g1; injection g1 with g1
  injection g2 with g2; injection g2 with g2; injection g2 with g2
  subst g1 g2
  exact hne
def tq (a b : Int) : Int := sgn (!(decide (a < 0) == decide (b < 0))) (a.natAbs / b.natAbs)
def tr (a b : Int) : Int := sgn (decide (a < 0)) (a.natAbs % b.natAbs)
theorem tq_tr (a b : Int) : tr a b + b * tq a b = a := by
  have h := Nat.div_add_mod a.natAbs b.natAbs
  have h' : (b.natAbs : Int) * ((a.natAbs / b.natAbs : Nat) : Int) + ((a.natAbs % b.natAbs : Nat) : Int) = (a.natAbs : Int) := by
    have := congrArg (Nat.cast (R := Int)) h
    simpa using this
  unfold tq tr sgn
  generalize a.natAbs / b.natAbs = q at *
  generalize a.natAbs % b.natAbs = r at *
  by_cases ha : a < 0 <;> by_cases hb : b < 0
  · rw [decide_eq_true ha, decide_eq_true hb]
    show -(r : Int) + b * (q : Int) = a
    rw [show (b.natAbs : Int) = -b by omega, show (a.natAbs : Int) = -a by omega, Int.neg_mul] at h'; omega
  · rw [decide_eq_true ha, decide_eq_false hb]
    show -(r : Int) + b * -(q : Int) = a
    rw [show (b.natAbs : Int) = b by omega, show (a.natAbs : Int) = -a by omega] at h'; rw [Int.mul_neg]; omega
  · rw [decide_eq_false ha, decide_eq_true hb]
    show (r : Int) + b * -(q : Int) = a
    rw [show (b.natAbs : Int) = -b by omega, show (a.natAbs : Int) = a by omega, Int.neg_mul] at h'; rw [Int.mul_neg]; omega
  · rw [decide_eq_false ha, decide_eq_false hb]
    show (r : Int) + b * (q : Int) = a
    rw [show (b.natAbs : Int) = b by omega, show (a.natAbs : Int) = a by omega] at h'; omega
theorem tr_abs (a b : Int) : (tr a b).natAbs = a.natAbs % b.natAbs := sgn_abs' _ _
theorem tq_abs (a b : Int) : (tq a b).natAbs = a.natAbs / b.natAbs := sgn_abs' _ _
theorem tr_lt {a b : Int} (hb : b ≠ 0) : (tr a b).natAbs < b.natAbs := by rw [tr_abs]; exact Nat.mod_lt _ (by omega)
theorem dm_pos {a b : Int} (hb : b ≠ 0) (h : 0 ≤ tr a b) : a / b = tq a b ∧ a % b = tr a b := by
  have h1 := tq_tr a b
  have h2 := tr_lt (a := a) hb
  rcases Int.lt_or_gt_of_ne hb with hn | hp
  · exact (Int.ediv_emod_unique' hn).2 ⟨h1, h, by omega⟩
  · exact (Int.ediv_emod_unique hp).2 ⟨h1, h, by omega⟩
theorem dm_neg1 {a b : Int} (hb : b < 0) (h : tr a b < 0) : a / b = tq a b + 1 ∧ a % b = tr a b + b.natAbs := by
  have h1 := tq_tr a b
  have h2 := tr_lt (a := a) (b := b) (by omega)
  refine (Int.ediv_emod_unique' hb).2 ⟨?_, by omega, by omega⟩
  rw [Int.mul_add, Int.mul_one]; omega
theorem dm_neg2 {a b : Int} (hb : 0 < b) (h : tr a b < 0) : a / b = tq a b - 1 ∧ a % b = tr a b + b.natAbs := by
  have h1 := tq_tr a b
  have h2 := tr_lt (a := a) (b := b) (by omega)
  refine (Int.ediv_emod_unique hb).2 ⟨?_, by omega, by omega⟩
  rw [Int.mul_sub, Int.mul_one]; omega
theorem Sz.le {x y : Int} {k : Nat} (h : Sz y k) (hx : x.natAbs ≤ y.natAbs) : Sz x k := Nat.lt_of_le_of_lt hx h
theorem sz_one {k : Nat} (h : 0 < k) : Sz 1 k := by unfold Sz; exact Nat.one_lt_pow (by omega) (by decide)
theorem bh_one : Bh 1 := sz_one (by omega)
theorem sg_neg {z : Int} (h : z < 0) : sg z = -1 := by simp [sg, h]
theorem sg_nonneg {z : Int} (h : 0 ≤ z) : 0 ≤ sg z := by unfold sg; split <;> (try split) <;> omega
set_option maxRecDepth 100000 in
set_option maxHeartbeats 4000000 in
theorem DivMod_C (a b : Int) (hb0 : b ≠ 0) (ha : Bh a) (hb : Bh b) : CallC Tryz.prog 171 [tZ a, tZ b] ⟨[], .tup [(true, cZ (a / b)), (true, cZ (a % b)), (false, [.p (.raw (.bool true))])]⟩ := by
  have la := ha.len
  have lb := hb.len
  have t1 := trim_C (limbs a.natAbs) ha.bg.len
  have t2 := trim_C (limbs b.natAbs) hb.bg.len
  rw [trim_id] at t1 t2
  have hl0 : (limbs b.natAbs).length ≠ 0 := fun h => hb0 (by have := limbs_len0.1 h; omega)
  have hd := divide_C a.natAbs b.natAbs (by omega) la lb
  have bq : Bh (tq a b) := ha.le (by rw [tq_abs]; exact Nat.div_le_self _ _)
  have br : Bh (tr a b) := hb.le (Nat.le_of_lt (tr_lt hb0))
  have hm1 := make_C (!(decide (a < 0) == decide (b < 0))) (limbs (a.natAbs / b.natAbs)) (lmb_limbs _) (by have := bq.bg.len; rwa [tq_abs] at this)
  have hm2 := make_C (decide (a < 0)) (limbs (a.natAbs % b.natAbs)) (lmb_limbs _) (by have := br.bg.len; rwa [tr_abs] at this)
  rw [natV_limbs, show sgn _ _ = tq a b from rfl] at hm1
  rw [natV_limbs, show sgn _ _ = tr a b from rfl] at hm2
  have hs := sign_C (tr a b) br.bg
  have p0 := @dm_pos a b hb0
  have p1 := @dm_neg1 a b
  have p2 := @dm_neg2 a b
  generalize tq a b = Q at *
  generalize tr a b = R at *
  by_cases hR : R < 0
  · have hm3 := make_C false (limbs b.natAbs) (lmb_limbs _) (by omega)
    rw [natV_limbs, show sgn false b.natAbs = ((b.natAbs : Nat) : Int) from rfl] at hm3
    have hA := Add_C R (b.natAbs : Int) br (by unfold Bh Sz; rw [Int.natAbs_natCast]; exact hb)
    have hs2 := sign_C b hb.bg
    have h1 := small_C 1 (by omega) (by omega)
    rw [sg_neg hR] at hs
    by_cases hbn : b < 0
    · obtain ⟨e1, e2⟩ := p1 hbn hR
      rw [e1, e2]
      rw [sg_neg hbn] at hs2
      have hA2 := Add_C Q 1 bq bh_one
      refine callC_of Tryz.func171 rfl (by kernel_rfl) ?_; rw [Tryz.ntmps171]
      (refine WpA_sreg [] [] (by simp) fun K hK => ?_; simp (disch := omega) only [kc, prep1, Nat.reduceAdd, tZ, decT, List.replicate, opS_box, newS, effA, cellsOf, isPure, ifT, updH, Nat.reduceEqDiff, opS_alloc, ty_zero51, Value.oneCell', ifF, ofConst]; (with_reducible refine hK _ ?_))
      (refine WpA_sdraw mixedA [⟨2, _, _, _, t1⟩, ⟨5, _, _, _, t2⟩] [] (by kernel_rfl) (by simp) fun K hK => ?_; simp (disch := omega) only [kc, slU, CItem.a, prep1, Nat.reduceAdd, opS_fieldAddr, effR, ty_fld51_1, ty_sz49, updH, Nat.reduceEqDiff, ifF, packT, ty_agg49, opS_call, newS, effA, List.find?_cons, evAll, norm, CallRes.plain, rawTV, rawAV, normOk, noRefTV, noRefAV, renTV, renAV, Nat.reduceBEq]; (with_reducible refine hK _ ?_))
      (refine WpA_seq (WpA_sreg [] [] (by simp) fun K hK => ?_); simp (disch := omega) only [kc, prep1, Nat.reduceAdd, opS_len, effR, ty_slice49, ls_len, effM, ofConst, Value.oneCell', evBin, decF]; (with_reducible refine hK _ ?_))
      refine WpA_cond rfl (fun h => by simp at h <;> omega) (fun _ => WpA_skip ?_)
      show WpA _ _ _ _
      (refine WpA_sreg [⟨2, _, _, _, hd⟩] [] (by simp) fun K hK => ?_; simp (disch := omega) only [kc, slU, CItem.a, prep1, Nat.reduceAdd, opS_call, newS, effA, List.find?_cons, evAll, norm, CallRes.plain, rawTV, rawAV, normOk, noRefTV, noRefAV, renTV, renAV, opS_extract, effM]; (with_reducible refine hK _ ?_))
      (refine WpA_sdraw mixedA [⟨6, _, _, _, hm1⟩, ⟨10, _, _, _, hm2⟩] [] (by kernel_rfl) (by simp) fun K hK => ?_; simp (disch := omega) only [kc, decT, slU, tZ, CItem.a, prep1, Nat.reduceAdd, opS_fieldAddr, effR, ty_fld51_0, ty_sz4, Nat.add_zero, updH, Nat.reduceEqDiff, ifF, packT, ty_agg4, effM, evBin, ty_bool4, opS_call, newS, effA, List.find?_cons, evAll, norm, CallRes.plain, rawTV, rawAV, normOk, noRefTV, noRefAV, renTV, renAV, Nat.reduceBEq, opS_alloc, ty_zero51, Value.oneCell', ifT, opS_store, wrS, effD, ty_sz51, cellsOf, Nat.le_refl, isPure, putCells, killTV, killAV]; (with_reducible refine hK _ ?_))
      refine WpA.weak (Weak_sub (tm := [jk, jk, .one (.ptr 2 0 0 0), .one (.ptr 3 0 0 0), .one (.ptr 4 0 0 0), .one (.ptr 5 0 0 0), .raw (.bool false), jk, slU (limbs b.natAbs), jk, jk, .one (.ptr 11 0 0 0), .one (.ptr 12 0 0 0), jk, jk, jk, jk, jk, jk, jk, jk, jk, jk, jk, jk, jk, jk, jk, jk, jk, jk, jk, jk, jk, jk, jk, jk, jk, jk, jk, jk, jk, jk, jk, jk, jk, jk, jk, jk, jk, jk, jk, jk, jk, jk, jk, jk, jk, jk, jk, jk]) (l := [(2, bxZ (decide (a < 0)) (limbs a.natAbs)), (3, bxZ true (limbs b.natAbs)), (4, bx0), (5, bx0), (11, bxZ (decide (Q < 0)) (limbs Q.natAbs)), (12, bxZ true (limbs R.natAbs))]) ⟨rfl, rfl, rfl, rfl, rfl, rfl, trivial⟩ (by simp [wkL, okTV, okAV])) ?_
      (refine WpA_seq (WpA_sreg [⟨1, _, _, _, hs⟩] [] (by simp) fun K hK => ?_); simp (disch := omega) only [kc, tZ, decT, CItem.a, prep1, Nat.reduceAdd, slU, Hm, effR, Nat.reduceEqDiff, ifF, packT, ty_sz51, ty_agg51, Nat.le_refl, opS_call, newS, effA, List.find?_cons, evAll, norm, CallRes.plain, rawTV, rawAV, normOk, isPure, noRefTV, noRefAV, renTV, renAV, effM, ofConst, Value.oneCell', evBin]; (with_reducible refine hK _ ?_))
      refine WpA_cond rfl (fun _ => ?_) (fun h => by simp at h <;> omega)
      (refine WpA_sdraw mixedA [⟨2, _, _, _, hm3⟩, ⟨3, _, _, _, hA⟩] [] (by kernel_rfl) (by simp) fun K hK => ?_; simp (disch := omega) only [kc, slU, tZ, decF, decT, CItem.a, prep1, Nat.reduceAdd, effR, Nat.reduceEqDiff, ifF, packT, ty_sz51, ty_agg51, Nat.le_refl, opS_call, newS, effA, List.find?_cons, evAll, ofConst, Value.oneCell', norm, CallRes.plain, rawTV, rawAV, normOk, noRefTV, noRefAV, renTV, renAV, Nat.reduceBEq, isPure, opS_store, wrS, effD, cellsOf, ifT, putCells, killTV, killAV]; (with_reducible refine hK _ ?_))
      (refine WpA_seq (WpA_sreg [⟨1, _, _, _, hs2⟩] [] (by simp) fun K hK => ?_); simp (disch := omega) only [kc, tZ, decT, CItem.a, prep1, Nat.reduceAdd, effR, updH, Nat.reduceEqDiff, ifF, packT, ty_sz51, ty_agg51, Nat.le_refl, opS_call, newS, effA, List.find?_cons, evAll, norm, CallRes.plain, rawTV, rawAV, normOk, isPure, noRefTV, noRefAV, renTV, renAV, effM, ofConst, Value.oneCell', evBin]; (with_reducible refine hK _ ?_))
      refine WpA_cond rfl (fun _ => ?_) (fun h => by simp at h <;> omega)
      (refine WpA_ssep [(12, 4, 51)] mixedA [⟨1, _, _, _, h1⟩, ⟨2, _, _, _, hA2⟩] [] (by kernel_rfl) (szOne (n := 2) (by simp only [ty_sz51, ty_agg51, ty_zero51, ty_fld51_1, ty_sz49, ty_agg49, ty_slice49, ty_bool3, ty_plc51, ty_fld51_0, ty_sz4, ty_agg4, ty_bool4]) (by decide)) (sepOne rfl rfl (by decide)) (by simp) fun K hK => ?_; simp (disch := omega) only [kc, tZ, decF, CItem.a, prep1, Nat.reduceAdd, effR, updH, Nat.reduceEqDiff, ifF, packT, ty_sz51, ty_agg51, Nat.le_refl, opS_call, newS, effA, List.find?_cons, evAll, ofConst, Value.oneCell', norm, CallRes.plain, rawTV, rawAV, normOk, noRefTV, noRefAV, renTV, renAV, Nat.reduceBEq, isPure, opS_store, wrS, effD, cellsOf, ifT, putCells, killTV, killAV]; (with_reducible refine hK _ ?_))
      (refine WpA_ret ⟨.inr rfl, ret_now rfl ?_ rfl⟩; simp (disch := omega) only [kc, resA, Tryz.results171, resL, resOne, updH, Nat.reduceEqDiff, ifF, packT, ty_sz51, ty_agg51, Nat.reduceAdd, Nat.le_refl, tvPair, cZ])
    · obtain ⟨e1, e2⟩ := p2 (by omega) hR
      rw [e1, e2]
      have hs3 := sg_nonneg (z := b) (by omega)
      have hA2 := Sub_C Q 1 bq bh_one
      refine callC_of Tryz.func171 rfl (by kernel_rfl) ?_; rw [Tryz.ntmps171]
      (refine WpA_sreg [] [] (by simp) fun K hK => ?_; simp (disch := omega) only [kc, prep1, Nat.reduceAdd, tZ, decF, List.replicate, opS_box, newS, effA, cellsOf, isPure, ifT, updH, Nat.reduceEqDiff, opS_alloc, ty_zero51, Value.oneCell', ifF, ofConst]; (with_reducible refine hK _ ?_))
      (refine WpA_sdraw mixedA [⟨2, _, _, _, t1⟩, ⟨5, _, _, _, t2⟩] [] (by kernel_rfl) (by simp) fun K hK => ?_; simp (disch := omega) only [kc, slU, CItem.a, prep1, Nat.reduceAdd, opS_fieldAddr, effR, ty_fld51_1, ty_sz49, updH, Nat.reduceEqDiff, ifF, packT, ty_agg49, opS_call, newS, effA, List.find?_cons, evAll, norm, CallRes.plain, rawTV, rawAV, normOk, noRefTV, noRefAV, renTV, renAV, Nat.reduceBEq]; (with_reducible refine hK _ ?_))
      (refine WpA_seq (WpA_sreg [] [] (by simp) fun K hK => ?_); simp (disch := omega) only [kc, prep1, Nat.reduceAdd, opS_len, effR, ty_slice49, ls_len, effM, ofConst, Value.oneCell', evBin, decF]; (with_reducible refine hK _ ?_))
      refine WpA_cond rfl (fun h => by simp at h <;> omega) (fun _ => WpA_skip ?_)
      show WpA _ _ _ _
      (refine WpA_sreg [⟨2, _, _, _, hd⟩] [] (by simp) fun K hK => ?_; simp (disch := omega) only [kc, slU, CItem.a, prep1, Nat.reduceAdd, opS_call, newS, effA, List.find?_cons, evAll, norm, CallRes.plain, rawTV, rawAV, normOk, noRefTV, noRefAV, renTV, renAV, opS_extract, effM]; (with_reducible refine hK _ ?_))
      (refine WpA_sdraw mixedA [⟨6, _, _, _, hm1⟩, ⟨10, _, _, _, hm2⟩] [] (by kernel_rfl) (by simp) fun K hK => ?_; simp (disch := omega) only [kc, decF, slU, tZ, decT, CItem.a, prep1, Nat.reduceAdd, opS_fieldAddr, effR, ty_fld51_0, ty_sz4, Nat.add_zero, updH, Nat.reduceEqDiff, ifF, packT, ty_agg4, effM, evBin, ty_bool4, opS_call, newS, effA, List.find?_cons, evAll, norm, CallRes.plain, rawTV, rawAV, normOk, noRefTV, noRefAV, renTV, renAV, Nat.reduceBEq, opS_alloc, ty_zero51, Value.oneCell', ifT, opS_store, wrS, effD, ty_sz51, cellsOf, Nat.le_refl, isPure, putCells, killTV, killAV]; (with_reducible refine hK _ ?_))
      refine WpA.weak (Weak_sub (tm := [jk, jk, .one (.ptr 2 0 0 0), .one (.ptr 3 0 0 0), .one (.ptr 4 0 0 0), .one (.ptr 5 0 0 0), .raw (.bool false), jk, slU (limbs b.natAbs), jk, jk, .one (.ptr 11 0 0 0), .one (.ptr 12 0 0 0), jk, jk, jk, jk, jk, jk, jk, jk, jk, jk, jk, jk, jk, jk, jk, jk, jk, jk, jk, jk, jk, jk, jk, jk, jk, jk, jk, jk, jk, jk, jk, jk, jk, jk, jk, jk, jk, jk, jk, jk, jk, jk, jk, jk, jk, jk, jk, jk]) (l := [(2, bxZ (decide (a < 0)) (limbs a.natAbs)), (3, bxZ false (limbs b.natAbs)), (4, bx0), (5, bx0), (11, bxZ (decide (Q < 0)) (limbs Q.natAbs)), (12, bxZ true (limbs R.natAbs))]) ⟨rfl, rfl, rfl, rfl, rfl, rfl, trivial⟩ (by simp [wkL, okTV, okAV])) ?_
      (refine WpA_seq (WpA_sreg [⟨1, _, _, _, hs⟩] [] (by simp) fun K hK => ?_); simp (disch := omega) only [kc, tZ, decT, CItem.a, prep1, Nat.reduceAdd, slU, Hm, effR, Nat.reduceEqDiff, ifF, packT, ty_sz51, ty_agg51, Nat.le_refl, opS_call, newS, effA, List.find?_cons, evAll, norm, CallRes.plain, rawTV, rawAV, normOk, isPure, noRefTV, noRefAV, renTV, renAV, effM, ofConst, Value.oneCell', evBin]; (with_reducible refine hK _ ?_))
      refine WpA_cond rfl (fun _ => ?_) (fun h => by simp at h <;> omega)
      (refine WpA_sdraw mixedA [⟨2, _, _, _, hm3⟩, ⟨3, _, _, _, hA⟩] [] (by kernel_rfl) (by simp) fun K hK => ?_; simp (disch := omega) only [kc, slU, tZ, decF, decT, CItem.a, prep1, Nat.reduceAdd, effR, Nat.reduceEqDiff, ifF, packT, ty_sz51, ty_agg51, Nat.le_refl, opS_call, newS, effA, List.find?_cons, evAll, ofConst, Value.oneCell', norm, CallRes.plain, rawTV, rawAV, normOk, noRefTV, noRefAV, renTV, renAV, Nat.reduceBEq, isPure, opS_store, wrS, effD, cellsOf, ifT, putCells, killTV, killAV]; (with_reducible refine hK _ ?_))
      (refine WpA_seq (WpA_sreg [⟨1, _, _, _, hs2⟩] [] (by simp) fun K hK => ?_); simp (disch := omega) only [kc, tZ, decF, CItem.a, prep1, Nat.reduceAdd, effR, updH, Nat.reduceEqDiff, ifF, packT, ty_sz51, ty_agg51, Nat.le_refl, opS_call, newS, effA, List.find?_cons, evAll, norm, CallRes.plain, rawTV, rawAV, normOk, isPure, noRefTV, noRefAV, renTV, renAV, effM, ofConst, Value.oneCell', evBin]; (with_reducible refine hK _ ?_))
      refine WpA_cond rfl (fun h => by simp at h <;> omega) (fun _ => WpA_skip ?_)
      show WpA _ _ _ _
      (refine WpA_ssep [(12, 4, 51)] mixedA [⟨1, _, _, _, h1⟩, ⟨2, _, _, _, hA2⟩] [] (by kernel_rfl) (szOne (n := 2) (by simp only [ty_sz51, ty_agg51, ty_zero51, ty_fld51_1, ty_sz49, ty_agg49, ty_slice49, ty_bool3, ty_plc51, ty_fld51_0, ty_sz4, ty_agg4, ty_bool4]) (by decide)) (sepOne rfl rfl (by decide)) (by simp) fun K hK => ?_; simp (disch := omega) only [kc, tZ, decF, CItem.a, prep1, Nat.reduceAdd, effR, updH, Nat.reduceEqDiff, ifF, packT, ty_sz51, ty_agg51, Nat.le_refl, opS_call, newS, effA, List.find?_cons, evAll, ofConst, Value.oneCell', norm, CallRes.plain, rawTV, rawAV, normOk, noRefTV, noRefAV, renTV, renAV, Nat.reduceBEq, isPure, opS_store, wrS, effD, cellsOf, ifT, putCells, killTV, killAV]; (with_reducible refine hK _ ?_))
      (refine WpA_ret ⟨.inr rfl, ret_now rfl ?_ rfl⟩; simp (disch := omega) only [kc, resA, Tryz.results171, resL, resOne, updH, Nat.reduceEqDiff, ifF, packT, ty_sz51, ty_agg51, Nat.reduceAdd, Nat.le_refl, tvPair, cZ])
  · obtain ⟨e1, e2⟩ := p0 (by omega)
    rw [e1, e2]
    have hs3 := sg_nonneg (z := R) (by omega)
    refine callC_of Tryz.func171 rfl (by kernel_rfl) ?_; rw [Tryz.ntmps171]
    (refine WpA_sreg [] [] (by simp) fun K hK => ?_; simp (disch := omega) only [kc, prep1, Nat.reduceAdd, tZ, List.replicate, opS_box, newS, effA, cellsOf, isPure, ifT, updH, Nat.reduceEqDiff, opS_alloc, ty_zero51, Value.oneCell', ifF, ofConst]; (with_reducible refine hK _ ?_))
    (refine WpA_sdraw mixedA [⟨2, _, _, _, t1⟩, ⟨5, _, _, _, t2⟩] [] (by kernel_rfl) (by simp) fun K hK => ?_; simp (disch := omega) only [kc, slU, CItem.a, prep1, Nat.reduceAdd, opS_fieldAddr, effR, ty_fld51_1, ty_sz49, updH, Nat.reduceEqDiff, ifF, packT, ty_agg49, opS_call, newS, effA, List.find?_cons, evAll, norm, CallRes.plain, rawTV, rawAV, normOk, noRefTV, noRefAV, renTV, renAV, Nat.reduceBEq]; (with_reducible refine hK _ ?_))
    (refine WpA_seq (WpA_sreg [] [] (by simp) fun K hK => ?_); simp (disch := omega) only [kc, prep1, Nat.reduceAdd, opS_len, effR, ty_slice49, ls_len, effM, ofConst, Value.oneCell', evBin, decF]; (with_reducible refine hK _ ?_))
    refine WpA_cond rfl (fun h => by simp at h <;> omega) (fun _ => WpA_skip ?_)
    show WpA _ _ _ _
    (refine WpA_sreg [⟨2, _, _, _, hd⟩] [] (by simp) fun K hK => ?_; simp (disch := omega) only [kc, slU, CItem.a, prep1, Nat.reduceAdd, opS_call, newS, effA, List.find?_cons, evAll, norm, CallRes.plain, rawTV, rawAV, normOk, noRefTV, noRefAV, renTV, renAV, opS_extract, effM]; (with_reducible refine hK _ ?_))
    (refine WpA_sdraw mixedA [⟨6, _, _, _, hm1⟩, ⟨10, _, _, _, hm2⟩] [] (by kernel_rfl) (by simp) fun K hK => ?_; simp (disch := omega) only [kc, slU, tZ, decF, CItem.a, prep1, Nat.reduceAdd, opS_fieldAddr, effR, ty_fld51_0, ty_sz4, Nat.add_zero, updH, Nat.reduceEqDiff, ifF, packT, ty_agg4, effM, evBin, ty_bool4, opS_call, newS, effA, List.find?_cons, evAll, norm, CallRes.plain, rawTV, rawAV, normOk, noRefTV, noRefAV, renTV, renAV, Nat.reduceBEq, opS_alloc, ty_zero51, Value.oneCell', ifT, opS_store, wrS, effD, ty_sz51, cellsOf, Nat.le_refl, isPure, putCells, killTV, killAV]; (with_reducible refine hK _ ?_))
    refine WpA.weak (Weak_sub (tm := [jk, jk, .one (.ptr 2 0 0 0), .one (.ptr 3 0 0 0), .one (.ptr 4 0 0 0), .one (.ptr 5 0 0 0), .raw (.bool false), jk, slU (limbs b.natAbs), jk, jk, .one (.ptr 11 0 0 0), .one (.ptr 12 0 0 0), jk, jk, jk, jk, jk, jk, jk, jk, jk, jk, jk, jk, jk, jk, jk, jk, jk, jk, jk, jk, jk, jk, jk, jk, jk, jk, jk, jk, jk, jk, jk, jk, jk, jk, jk, jk, jk, jk, jk, jk, jk, jk, jk, jk, jk, jk, jk, jk]) (l := [(2, bxZ (decide (a < 0)) (limbs a.natAbs)), (3, bxZ (decide (b < 0)) (limbs b.natAbs)), (4, bx0), (5, bx0), (11, bxZ (decide (Q < 0)) (limbs Q.natAbs)), (12, bxZ false (limbs R.natAbs))]) ⟨rfl, rfl, rfl, rfl, rfl, rfl, trivial⟩ (by simp [wkL, okTV, okAV])) ?_
    (refine WpA_seq (WpA_sreg [⟨1, _, _, _, hs⟩] [] (by simp) fun K hK => ?_); simp (disch := omega) only [kc, tZ, decF, CItem.a, prep1, Nat.reduceAdd, slU, Hm, effR, Nat.reduceEqDiff, ifF, packT, ty_sz51, ty_agg51, Nat.le_refl, opS_call, newS, effA, List.find?_cons, evAll, norm, CallRes.plain, rawTV, rawAV, normOk, isPure, noRefTV, noRefAV, renTV, renAV, effM, ofConst, Value.oneCell', evBin]; (with_reducible refine hK _ ?_))
    refine WpA_cond rfl (fun h => by simp at h <;> omega) (fun _ => WpA_skip ?_)
    show WpA _ _ _ _
    (refine WpA_ssep [(12, 4, 51)] mixedA [] [] (by kernel_rfl) (szOne (n := 2) (by simp only [ty_sz51, ty_agg51, ty_zero51, ty_fld51_1, ty_sz49, ty_agg49, ty_slice49, ty_bool3, ty_plc51, ty_fld51_0, ty_sz4, ty_agg4, ty_bool4]) (by decide)) (sepOne rfl rfl (by decide)) (by simp) fun K hK => ?_; simp (disch := omega) only [kc, prep1, Nat.reduceAdd, effR, Nat.reduceEqDiff, ifF, packT, ty_sz51, ty_agg51, Nat.le_refl, opS_store, wrS, effD, cellsOf, isPure, ifT, putCells, killTV, killAV, updH, ofConst, Value.oneCell']; (with_reducible refine hK _ ?_))
    (refine WpA_ret ⟨.inr rfl, ret_now rfl ?_ rfl⟩; simp (disch := omega) only [kc, resA, Tryz.results171, resL, resOne, updH, Nat.reduceEqDiff, ifF, packT, ty_sz51, ty_agg51, Nat.reduceAdd, Nat.le_refl, tvPair, cZ, decF])
set_option maxRecDepth 100000 in
set_option maxHeartbeats 4000000 in
theorem Quo_C (a b : Int) (hb0 : b ≠ 0) (ha : Bh a) (hb : Bh b) : CallC Tryz.prog 145 [tZ a, tZ b] ⟨[], tZ (a / b)⟩ := by
  have h1 := DivMod_C a b hb0 ha hb
  refine callC_of Tryz.func145 rfl (by kernel_rfl) ?_; rw [Tryz.ntmps145]
  (refine WpA_sreg [] [] (by simp) fun K hK => ?_; simp (disch := omega) only [kc, prep1, Nat.reduceAdd, tZ, List.replicate, opS_box, newS, effA, cellsOf, isPure, ifT, updH, Nat.reduceEqDiff, opS_alloc, ty_zero51, Value.oneCell', ifF]; (with_reducible refine hK _ ?_))
  (refine WpA_sreg [⟨2, _, _, _, h1⟩] [] (by simp) fun K hK => ?_; simp (disch := omega) only [kc, tZ, cZ, CItem.a, prep1, Nat.reduceAdd, effR, updH, Nat.reduceEqDiff, ifF, packT, ty_sz51, ty_agg51, Nat.le_refl, opS_call, newS, effA, List.find?_cons, evAll, norm, CallRes.plain, rawTV, rawAV, normOk, isPure, noRefTV, noRefAV, renTV, renAV, opS_extract, effM, opS_alloc, ty_zero51, Value.oneCell', ifT, opS_store, wrS, effD, cellsOf, putCells, killTV, killAV]; (with_reducible refine hK _ ?_))
  (refine WpA_sreg [] [] (by simp) fun K hK => ?_; simp (disch := omega) only [kc, prep1, effR, updH, Nat.reduceEqDiff, ifF, packT, ty_sz51, ty_agg51, Nat.reduceAdd, Nat.le_refl, opS_store, wrS, effD, cellsOf, isPure, ifT, putCells, killTV, killAV]; (with_reducible refine hK _ ?_))
  (refine WpA_ret ⟨.inr rfl, ret_now rfl ?_ rfl⟩; simp (disch := omega) only [kc, resA, Tryz.results145, resOne, updH, Nat.reduceEqDiff, ifF, packT, ty_sz51, ty_agg51, Nat.reduceAdd, Nat.le_refl, tZ])
end Go.Proofs.YtennjcjjegbhgaaGreat
namespace Go.Proofs.YtennjcjjegbhgaaGreat
open Go.RowKit
def fR {α : Type} (f : α → List PV) (r : List α) : List PV := [.sl (ls f r)]
abbrev slM (M : List (List Int)) : TV := .one (.p (.sl (ls (fR fZ) M)))
abbrev rOk (n : Nat) (r : List Int) : Prop := 1 ≤ r.length ∧ r.length ≤ 16 ∧ r.length = n
def ShP (M : List (List Int)) : Prop := 1 ≤ M.length ∧ M.length ≤ 16 ∧ ∀ r ∈ M, rOk (M.headD []).length r
instance (M : List (List Int)) : Decidable (ShP M) := by unfold ShP; exact inferInstance
def shT (M : List (List Int)) : TV := if ShP M then .tup [(false, [.p (.raw (.int .i64 (M.length : Int)))]), (false, [.p (.raw (.int .i64 ((M.headD []).length : Int)))]), (false, [.p (.raw (.bool true))])]
  else .tup [(false, [.p (.raw (.int .i64 0))]), (false, [.p (.raw (.int .i64 0))]), (false, [.p (.raw (.bool false))])]
theorem shT_no {M : List (List Int)} (h : ¬ ShP M) : shT M = .tup [(false, [.p (.raw (.int .i64 0))]), (false, [.p (.raw (.int .i64 0))]), (false, [.p (.raw (.bool false))])] := by unfold shT; rw [if_neg h]
theorem shT_yes {M : List (List Int)} (h : ShP M) : shT M = .tup [(false, [.p (.raw (.int .i64 (M.length : Int)))]), (false, [.p (.raw (.int .i64 ((M.headD []).length : Int)))]), (false, [.p (.raw (.bool true))])] := by unfold shT; rw [if_pos h]
theorem headD_at {M : List (List Int)} (h : 1 ≤ M.length) : M[0]? = some (M.headD []) := by cases M with
  | nil => simp at h
  | cons r M => rfl
structure ShG (M : List (List Int)) where
  i : Nat
  hi : i ≤ M.length
  ok : ∀ r ∈ M.take i, rOk (M.headD []).length r
set_option maxRecDepth 100000 in
set_option maxHeartbeats 4000000 in
theorem Shape_C (M : List (List Int)) : CallC Tryz.prog 112 [slM M] ⟨[], shT M⟩ := by
  by_cases h1 : M.length < 1
  · rw [shT_no (fun h => by have := h.1; omega)]
    refine callC_of Tryz.func112 rfl (by kernel_rfl) ?_; rw [Tryz.ntmps112]
    (refine WpA_sreg [] [] (by simp) fun K hK => ?_; simp (disch := omega) only [kc, prep1, Nat.reduceAdd, slM, List.replicate, ofConst, Value.oneCell']; (with_reducible refine hK _ ?_))
    (refine WpA_seq (WpA_sreg [] [] (by simp) fun K hK => ?_); simp (disch := omega) only [kc, prep1, Nat.reduceAdd, opS_len, effR, ty_slice62, ls_len, effM, ofConst, Value.oneCell', evBin, decT, stS_guard, reduceCtorEq, Option.map_none, opS_pick]; (with_reducible refine hK _ ?_))
    refine WpA_cond rfl (fun _ => ?_) (fun h => by simp at h <;> omega)
    (refine WpA_sreg [] [] (by simp) fun K hK => ?_; simp (disch := omega) only [kc, prep1, Nat.reduceAdd, ofConst, Value.oneCell']; (with_reducible refine hK _ ?_))
    (refine WpA_ret ⟨.inr rfl, ret_now rfl ?_ rfl⟩; simp (disch := omega) only [resA, Tryz.results112, resL, resOne, List.getElem?_cons_succ, List.getElem?_cons_zero, Option.bind_some, tvPair, Option.map_some])
  by_cases h2 : 16 < M.length
  · rw [shT_no (fun h => by have := h.2.1; omega)]
    refine callC_of Tryz.func112 rfl (by kernel_rfl) ?_; rw [Tryz.ntmps112]
    (refine WpA_sreg [] [] (by simp) fun K hK => ?_; simp (disch := omega) only [kc, prep1, Nat.reduceAdd, slM, List.replicate, ofConst, Value.oneCell']; (with_reducible refine hK _ ?_))
    (refine WpA_seq (WpA_sreg [] [] (by simp) fun K hK => ?_); simp (disch := omega) only [kc, prep1, Nat.reduceAdd, opS_len, effR, ty_slice62, ls_len, effM, ofConst, Value.oneCell', evBin, decF, stS_guard, ifT, decT, opS_pick]; (with_reducible refine hK _ ?_))
    refine WpA_cond rfl (fun _ => ?_) (fun h => by simp at h <;> omega)
    (refine WpA_sreg [] [] (by simp) fun K hK => ?_; simp (disch := omega) only [kc, prep1, Nat.reduceAdd, ofConst, Value.oneCell']; (with_reducible refine hK _ ?_))
    (refine WpA_ret ⟨.inr rfl, ret_now rfl ?_ rfl⟩; simp (disch := omega) only [resA, Tryz.results112, resL, resOne, List.getElem?_cons_succ, List.getElem?_cons_zero, Option.bind_some, tvPair, Option.map_some])
  have h0 := headD_at (M := M) (by omega)
  refine callC_of Tryz.func112 rfl (by kernel_rfl) ?_; rw [Tryz.ntmps112]
  (refine WpA_sreg [] [] (by simp) fun K hK => ?_; simp (disch := omega) only [kc, prep1, Nat.reduceAdd, slM, List.replicate, ofConst, Value.oneCell']; (with_reducible refine hK _ ?_))
  (refine WpA_seq (WpA_sreg [] [] (by simp) fun K hK => ?_); simp (disch := omega) only [kc, prep1, Nat.reduceAdd, opS_len, effR, ty_slice62, ls_len, effM, ofConst, Value.oneCell', evBin, decF, stS_guard, ifT, opS_pick]; (with_reducible refine hK _ ?_))
  refine WpA_cond rfl (fun h => by simp at h <;> omega) (fun _ => WpA_skip ?_)
  show WpA _ _ _ _
  (refine WpA_seq (WpA_sreg [] [] (by simp) fun K hK => ?_); simp (disch := omega) only [kc, prep1, Nat.reduceAdd, opS_len, effR, ty_slice62, ls_len, ofConst, Value.oneCell']; (with_reducible refine hK _ ?_))
  refine WpA_forb (G := ShG M) (fun g => ⟨[slM M, jk, .raw (.int .i64 0), .raw (.int .i64 0), .raw (.bool false), jk, jk, jk, jk, jk, jk, jk, jk, jk, jk, slM M, .raw (.int .i64 (M.length : Int)), .raw (.int .i64 (g.i : Int)), jk, jk, jk, jk, jk, jk, jk, jk, jk, jk, jk, jk, jk, jk, jk, jk, jk, jk, jk, jk, jk, jk, jk, jk, jk, jk, jk], Hm []⟩) (fun g => M.length - g.i) ⟨0, by omega, fun r hr => by simp at hr⟩ ?_ ?_
  · refine Weak_sub trivial ?_
    simp [wkL, okTV, okAV]
  · rintro ⟨i, hi, ok⟩
    simp only
    by_cases hm : i < M.length
    · obtain ⟨r, hr⟩ := getElem?_of_lt hm
      have hmem : r ∈ M := List.mem_of_getElem? hr
      (refine WpA_sreg [] [] (by simp) fun K hK => ?_; simp (disch := omega) only [kc, prep1, slM, Hm, effM, evBin, decT]; (with_reducible refine hK _ ?_))
      refine WpA_seq (WpA_cond rfl (fun _ => WpA_skip ?_) (fun h => by simp at h <;> omega))
      refine WpA_seq (WpA_block ?_)
      (refine WpA_sreg [] [] (by simp) fun K hK => ?_; simp (disch := omega) only [kc, prep1, Nat.reduceAdd, opS_indexAddr, effR, natOf_pos, ty_slice62, ls_get, hr, fR, ty_sz120, packT, ty_agg120]; (with_reducible refine hK _ ?_))
      by_cases c1 : r.length < 1
      · rw [shT_no (fun h => by have := (h.2.2 r hmem).1; omega)]
        (refine WpA_sreg [] [] (by simp) fun K hK => ?_; simp (disch := omega) only [kc, prep1, Nat.reduceAdd, opS_len, effR, ty_slice120, ls_len, effM, ofConst, Value.oneCell', evBin, decT, stS_guard, reduceCtorEq, Option.map_none, opS_pick, opS_indexAddr, natOf_pos, Int.reduceToNat, ty_slice62]; (with_reducible refine hK _ ?_))
        refine WpA_cond rfl (fun _ => ?_) (fun h => by simp at h <;> omega)
        (refine WpA_sreg [] [] (by simp) fun K hK => ?_; simp (disch := omega) only [kc, prep1, Nat.reduceAdd, ofConst, Value.oneCell']; (with_reducible refine hK _ ?_))
        (refine WpA_ret ⟨.inr rfl, ret_now rfl ?_ rfl⟩; simp (disch := omega) only [resA, Tryz.results112, resL, resOne, List.getElem?_cons_succ, List.getElem?_cons_zero, Option.bind_some, tvPair, Option.map_some])
      by_cases c2 : 16 < r.length
      · rw [shT_no (fun h => by have := (h.2.2 r hmem).2.1; omega)]
        (refine WpA_sreg [] [] (by simp) fun K hK => ?_; simp (disch := omega) only [kc, prep1, Nat.reduceAdd, opS_len, effR, ty_slice120, ls_len, effM, ofConst, Value.oneCell', evBin, decF, stS_guard, ifT, decT, opS_pick, reduceCtorEq, Option.map_none, opS_indexAddr, natOf_pos, Int.reduceToNat, ty_slice62]; (with_reducible refine hK _ ?_))
        refine WpA_cond rfl (fun _ => ?_) (fun h => by simp at h <;> omega)
        (refine WpA_sreg [] [] (by simp) fun K hK => ?_; simp (disch := omega) only [kc, prep1, Nat.reduceAdd, ofConst, Value.oneCell']; (with_reducible refine hK _ ?_))
        (refine WpA_ret ⟨.inr rfl, ret_now rfl ?_ rfl⟩; simp (disch := omega) only [resA, Tryz.results112, resL, resOne, List.getElem?_cons_succ, List.getElem?_cons_zero, Option.bind_some, tvPair, Option.map_some])
      by_cases c3 : r.length = (M.headD []).length
      · (refine WpA_sreg [] [] (by simp) fun K hK => ?_; simp (disch := omega) only [kc, prep1, Nat.reduceAdd, opS_len, effR, ty_slice120, ls_len, effM, ofConst, Value.oneCell', evBin, decF, stS_guard, ifT, opS_pick, opS_indexAddr, natOf_pos, Int.reduceToNat, ty_slice62, ls_get, h0, fR, ty_sz120, packT, ty_agg120, decT]; (with_reducible refine hK _ ?_))
        refine WpA_cond rfl (fun h => by simp at h <;> omega) (fun _ => WpA_skip ?_)
        show WpA _ _ _ _
        ((refine WpA_lreg [] [] (by simp) fun K hK => ?_); simp (disch := omega) only [kc, prep1, effM, ofConst, Value.oneCell', evBin, wrapI]; (with_reducible refine hK _ ?_))
        refine ⟨⟨i + 1, by omega, fun r' hr' => ?_⟩, by simp only; omega, Weak_sub trivial ?_⟩
        · rw [List.take_add_one, hr] at hr'
          rcases List.mem_append.1 hr' with h | h
          · exact ok r' h
          · have : r' = r := by simpa using h
            subst this
            exact ⟨by omega, by omega, c3⟩
        · simp [wkL, okTV, okAV]
      · rw [shT_no (fun h => by have := (h.2.2 r hmem).2.2; omega)]
        (refine WpA_sreg [] [] (by simp) fun K hK => ?_; simp (disch := omega) only [kc, prep1, Nat.reduceAdd, opS_len, effR, ty_slice120, ls_len, effM, ofConst, Value.oneCell', evBin, decF, stS_guard, ifT, opS_pick, opS_indexAddr, natOf_pos, Int.reduceToNat, ty_slice62, ls_get, h0, fR, ty_sz120, packT, ty_agg120, Bool.not_false]; (with_reducible refine hK _ ?_))
        refine WpA_cond rfl (fun _ => ?_) (fun h => by simp at h <;> omega)
        (refine WpA_sreg [] [] (by simp) fun K hK => ?_; simp (disch := omega) only [kc, prep1, Nat.reduceAdd, ofConst, Value.oneCell']; (with_reducible refine hK _ ?_))
        (refine WpA_ret ⟨.inr rfl, ret_now rfl ?_ rfl⟩; simp (disch := omega) only [resA, Tryz.results112, resL, resOne, List.getElem?_cons_succ, List.getElem?_cons_zero, Option.bind_some, tvPair, Option.map_some])
    · have hsh : ShP M := ⟨by omega, by omega, fun r hr => ok r (by rw [List.take_of_length_le (by omega)]; exact hr)⟩
      rw [shT_yes hsh]
      (refine WpA_sreg [] [] (by simp) fun K hK => ?_; simp (disch := omega) only [kc, prep1, slM, Hm, effM, evBin, decF]; (with_reducible refine hK _ ?_))
      refine WpA_seq (WpA_cond rfl (fun h => by simp at h <;> omega) (fun _ => WpA_exit ?_))
      show WpA _ _ _ _
      (refine WpA_sdraw mixedA [] [] (by kernel_rfl) (by simp) fun K hK => ?_; simp (disch := omega) only [kc, prep1, Nat.reduceAdd, opS_len, effR, ty_slice62, ls_len, opS_indexAddr, ofConst, Value.oneCell', natOf_pos, Int.reduceToNat, ls_get, h0, fR, ty_sz120, packT, ty_agg120, ty_slice120]; (with_reducible refine hK _ ?_))
      (refine WpA_ret ⟨.inr rfl, ret_now rfl ?_ rfl⟩; simp (disch := omega) only [resA, Tryz.results112, resL, resOne, List.getElem?_cons_succ, List.getElem?_cons_zero, Option.bind_some, tvPair, Option.map_some])
def SqP (M : List (List Int)) : Prop := ShP M ∧ M.length = (M.headD []).length
instance (M : List (List Int)) : Decidable (SqP M) := by unfold SqP; exact inferInstance
def sqT (M : List (List Int)) : TV := if SqP M then .tup [(false, [.p (.raw (.int .i64 (M.length : Int)))]), (false, [.p (.raw (.bool true))])] else .tup [(false, [.p (.raw (.int .i64 0))]), (false, [.p (.raw (.bool false))])]
set_option maxRecDepth 100000 in
set_option maxHeartbeats 4000000 in
theorem Square_C (M : List (List Int)) : CallC Tryz.prog 114 [slM M] ⟨[], sqT M⟩ := by
  have hS := Shape_C M
  by_cases h1 : ShP M
  · rw [shT_yes h1] at hS
    by_cases h2 : M.length = (M.headD []).length
    · rw [show sqT M = _ from if_pos ⟨h1, h2⟩]
      refine callC_of Tryz.func114 rfl (by kernel_rfl) ?_; rw [Tryz.ntmps114]
      (refine WpA_sreg [] [] (by simp) fun K hK => ?_; simp (disch := omega) only [kc, prep1, slM, List.replicate, ofConst, Value.oneCell']; (with_reducible refine hK _ ?_))
      (refine WpA_sreg [⟨1, _, _, _, hS⟩] [] (by simp) fun K hK => ?_; simp (disch := omega) only [kc, slM, CItem.a, prep1, Nat.reduceAdd, opS_call, newS, effA, List.find?_cons, evAll, norm, CallRes.plain, rawTV, rawAV, normOk, noRefTV, noRefAV, renTV, renAV, opS_extract, effM]; (with_reducible refine hK _ ?_))
      (refine WpA_seq (WpA_sreg [] [] (by simp) fun K hK => ?_); simp (disch := omega) only [kc, prep1, Nat.reduceAdd, opS_un, effM, evUn, stS_guard, evBin, decT, ifT, opS_pick]; (with_reducible refine hK _ ?_))
      refine WpA_cond rfl (fun h => by simp at h <;> omega) (fun _ => WpA_skip ?_)
      show WpA _ _ _ _
      (refine WpA_sreg [] [] (by simp) fun K hK => ?_; simp (disch := omega) only [kc, prep1, Nat.reduceAdd, ofConst, Value.oneCell']; (with_reducible refine hK _ ?_))
      (refine WpA_ret ⟨.inr rfl, ret_now rfl ?_ rfl⟩; simp (disch := omega) only [resA, Tryz.results114, resL, resOne, List.getElem?_cons_succ, List.getElem?_cons_zero, Option.bind_some, tvPair, Option.map_some])
    · rw [show sqT M = _ from if_neg (fun h => h2 h.2)]
      refine callC_of Tryz.func114 rfl (by kernel_rfl) ?_; rw [Tryz.ntmps114]
      (refine WpA_sreg [] [] (by simp) fun K hK => ?_; simp (disch := omega) only [kc, prep1, slM, List.replicate, ofConst, Value.oneCell']; (with_reducible refine hK _ ?_))
      (refine WpA_sreg [⟨1, _, _, _, hS⟩] [] (by simp) fun K hK => ?_; simp (disch := omega) only [kc, slM, CItem.a, prep1, Nat.reduceAdd, opS_call, newS, effA, List.find?_cons, evAll, norm, CallRes.plain, rawTV, rawAV, normOk, noRefTV, noRefAV, renTV, renAV, opS_extract, effM]; (with_reducible refine hK _ ?_))
      (refine WpA_seq (WpA_sreg [] [] (by simp) fun K hK => ?_); simp (disch := omega) only [kc, prep1, Nat.reduceAdd, opS_un, effM, evUn, stS_guard, evBin, decF, Bool.not_false, ifT, opS_pick]; (with_reducible refine hK _ ?_))
      refine WpA_cond rfl (fun _ => ?_) (fun h => by simp at h <;> omega)
      (refine WpA_sreg [] [] (by simp) fun K hK => ?_; simp (disch := omega) only [kc, prep1, ofConst, Value.oneCell']; (with_reducible refine hK _ ?_))
      (refine WpA_ret ⟨.inr rfl, ret_now rfl ?_ rfl⟩; simp (disch := omega) only [resA, Tryz.results114, resL, resOne, List.getElem?_cons_succ, List.getElem?_cons_zero, Option.bind_some, tvPair, Option.map_some])
  · rw [shT_no h1] at hS
    rw [show sqT M = _ from if_neg (fun h => h1 h.1)]
    refine callC_of Tryz.func114 rfl (by kernel_rfl) ?_; rw [Tryz.ntmps114]
    (refine WpA_sreg [] [] (by simp) fun K hK => ?_; simp (disch := omega) only [kc, prep1, slM, List.replicate, ofConst, Value.oneCell']; (with_reducible refine hK _ ?_))
    (refine WpA_sreg [⟨1, _, _, _, hS⟩] [] (by simp) fun K hK => ?_; simp (disch := omega) only [kc, slM, CItem.a, prep1, Nat.reduceAdd, opS_call, newS, effA, List.find?_cons, evAll, norm, CallRes.plain, rawTV, rawAV, normOk, noRefTV, noRefAV, renTV, renAV, opS_extract, effM]; (with_reducible refine hK _ ?_))
    (refine WpA_seq (WpA_sreg [] [] (by simp) fun K hK => ?_); simp (disch := omega) only [kc, prep1, Nat.reduceAdd, opS_un, effM, evUn, Bool.not_false, stS_guard, reduceCtorEq, Option.map_none, opS_pick, ofConst, Value.oneCell']; (with_reducible refine hK _ ?_))
    refine WpA_cond rfl (fun _ => ?_) (fun h => by simp at h <;> omega)
    (refine WpA_sreg [] [] (by simp) fun K hK => ?_; simp (disch := omega) only [kc, prep1, ofConst, Value.oneCell']; (with_reducible refine hK _ ?_))
    (refine WpA_ret ⟨.inr rfl, ret_now rfl ?_ rfl⟩; simp (disch := omega) only [resA, Tryz.results114, resL, resOne, List.getElem?_cons_succ, List.getElem?_cons_zero, Option.bind_some, tvPair, Option.map_some])
end Go.Proofs.YtennjcjjegbhgaaGreat
namespace Go.Proofs.YtennjcjjegbhgaaGreat
open Go.RowKit
def zPV : PV → PV
  | .raw (.slice none 0 0) => .sl []
  | x => x
def zAV : AV → AV
  | .p x => .p (zPV x)
  | x => x
def zO (o : OObj) : OObj := { o with elems := o.elems.map (List.map zAV) }
theorem zPV_rep {X : Nat → Prop} {w : World} {x : PV} {v : Value} (h : Rep X w x v) : Rep X w (zPV x) v := by
  unfold zPV
  split
  · cases h; exact .nil none 0
  · exact h
theorem zAV_rel {ρ : Rho} {H : OH} {X : Nat → Prop} {w : World} {x : AV} {v : Value} (h : x.rel ρ H X w v) : (zAV x).rel ρ H X w v := by
  cases x with
  | p x => exact zPV_rep h
  | sl a r off len => exact h
  | ptr a r i j => exact h
  | junk => exact h
section
variable {H : OH} {d : Nat}
def zH (H : OH) (d : Nat) : OH := updH H d ((H d).map zO)
theorem zH_get {a r : Nat} {o : OObj} (h : (zH H d a)[r]? = some o) : ∃ o', (H a)[r]? = some o' ∧ ((a = d ∧ o = zO o') ∨ o = o') := by
  unfold zH at h
  by_cases ha : a = d
  · subst ha
    rw [updH_eq, List.getElem?_map] at h
    obtain ⟨o', h1, h2⟩ := Option.map_eq_some_iff.1 h
    exact ⟨o', h1, .inl ⟨rfl, h2.symm⟩⟩
  · rw [updH_ne ha] at h
    exact ⟨o, h, .inr rfl⟩
theorem zH_of {a r : Nat} {o : OObj} (h : (H a)[r]? = some o) : ∃ o', (zH H d a)[r]? = some o' ∧ o'.es = o.es ∧ o'.elems.length = o.elems.length := by
  unfold zH
  by_cases ha : a = d
  · subst ha
    exact ⟨zO o, by rw [updH_eq, List.getElem?_map, h]; rfl, rfl, by simp [zO]⟩
  · exact ⟨o, by rw [updH_ne ha]; exact h, rfl, rfl⟩
theorem zH_Xo (X : Nat → Prop) (ρ : Rho) : Xo X ρ (zH H d) = Xo X ρ H := by
  funext b
  apply propext
  constructor
  · rintro (h | ⟨a, r, o, c, h1, h2⟩)
    · exact .inl h
    · obtain ⟨o', g1, _⟩ := zH_get h1
      exact .inr ⟨a, r, o', c, g1, h2⟩
  · rintro (h | ⟨a, r, o, c, h1, h2⟩)
    · exact .inl h
    · obtain ⟨o', g1, _⟩ := zH_of (d := d) h1
      exact .inr ⟨a, r, o', c, g1, h2⟩
theorem zH_av {ρ : Rho} {X : Nat → Prop} {w : World} {x : AV} {v : Value} (h : x.rel ρ H X w v) : x.rel ρ (zH H d) X w v := by
  cases x with
  | p x => exact h
  | junk => trivial
  | sl a r off len =>
    obtain ⟨o, h1, h2, h3⟩ := h
    obtain ⟨o', g1, g2, g3⟩ := zH_of (d := d) h1
    exact ⟨o', g1, by omega, by rw [g2]; exact h3⟩
  | ptr a r i j =>
    obtain ⟨o, b, c, h1, h2, h3, h4⟩ := h
    obtain ⟨o', g1, g2, g3⟩ := zH_of (d := d) h1
    exact ⟨o', b, c, g1, h2, by omega, by rw [g2]; exact h4⟩
theorem zH_tv {ρ : Rho} {X : Nat → Prop} {w : World} {t : TV} {v : Value} (h : t.rel ρ H X w v) : t.rel ρ (zH H d) X w v := by
  have agg : ∀ {cs : List AV} {v : Value}, aggRel ρ H X w cs v → aggRel ρ (zH H d) X w cs v := fun {cs v} ⟨vs, h1, h2, h3⟩ =>
    ⟨vs, h1, h2, fun j x hx => by obtain ⟨u, u1, u2, u3⟩ := h3 j x hx; exact ⟨u, u1, u2, zH_av u3⟩⟩
  cases t with
  | one x => exact zH_av (x := x) h
  | agg cs => exact agg h
  | tup ts =>
    obtain ⟨vs, h1, h2, h3⟩ := h
    refine ⟨vs, h1, h2, fun j b cs hj => ?_⟩
    obtain ⟨u, u1, u2⟩ := h3 j b cs hj
    refine ⟨u, u1, ?_⟩
    rcases u2 with ⟨e, g⟩ | ⟨e, x, hx, g⟩
    · exact .inl ⟨e, agg g⟩
    · exact .inr ⟨e, x, hx, zH_av g⟩
theorem zO_obj {ρ : Rho} {X : Nat → Prop} {w : World} {a r : Nat} {o : OObj} (h : objRel ρ H X w a r o) : objRel ρ (zH H d) X w a r (zO o) ∧ objRel ρ (zH H d) X w a r o := by
  obtain ⟨h1, h2, h3⟩ := h
  refine ⟨⟨fun e he => ?_, h2, ?_⟩, ⟨h1, h2, ?_⟩⟩
  · simp only [zO, List.mem_map] at he
    obtain ⟨e', he', rfl⟩ := he
    simp only [List.length_map, zO]
    exact h1 e' he'
  · cases hρ : ρ a r with
    | none => rw [hρ] at h3; simp only at h3 ⊢; simp [zO, h3]
    | some bc =>
      obtain ⟨b, c⟩ := bc
      rw [hρ] at h3
      obtain ⟨cells, g1, g2, g3, g4, g5⟩ := h3
      refine ⟨cells, g1, g2, by simpa [zO] using g3, g4, fun i e j x hi hj => ?_⟩
      simp only [zO, List.getElem?_map] at hi
      obtain ⟨e', he', rfl⟩ := Option.map_eq_some_iff.1 hi
      simp only [List.getElem?_map] at hj
      obtain ⟨x', hx', rfl⟩ := Option.map_eq_some_iff.1 hj
      obtain ⟨v, v1, v2, v3⟩ := g5 i e' j x' he' hx'
      exact ⟨v, v1, v2, zAV_rel (zH_av v3)⟩
  · cases hρ : ρ a r with
    | none => rw [hρ] at h3; exact h3
    | some bc =>
      obtain ⟨b, c⟩ := bc
      rw [hρ] at h3
      obtain ⟨cells, g1, g2, g3, g4, g5⟩ := h3
      refine ⟨cells, g1, g2, g3, g4, fun i e j x hi hj => ?_⟩
      obtain ⟨v, v1, v2, v3⟩ := g5 i e j x hi hj
      exact ⟨v, v1, v2, zH_av v3⟩
end
theorem Weak_zH {s : AS} (d : Nat) : Weak s ⟨s.tmps, zH s.H d⟩ := by
  rintro w0 O X a w ⟨h1, hsz, ρ, hinv, htm⟩
  refine ⟨h1, hsz, ρ, ⟨hinv.keep, fun a r o ho => ?_, fun a r a' r' o o' b c c' ho ho' hb hb' => ?_, fun a r o b c ho hb => ?_, hinv.bar, fun a r o ho => ?_⟩, fun t x hx => ?_⟩
  · obtain ⟨o', g1, g2⟩ := zH_get ho
    show objRel ρ (zH s.H d) (Xo X ρ (zH s.H d)) w a r o
    rw [zH_Xo]
    rcases g2 with ⟨_, rfl⟩ | rfl
    · exact (zO_obj (hinv.objs a r o' g1)).1
    · exact (zO_obj (hinv.objs a r o g1)).2
  · obtain ⟨p, g1, _⟩ := zH_get ho
    obtain ⟨p', g2, _⟩ := zH_get ho'
    exact hinv.inj a r a' r' p p' b c c' g1 g2 hb hb'
  · obtain ⟨p, g1, _⟩ := zH_get ho
    exact hinv.old a r p b c g1 hb
  · obtain ⟨o', g1, g2⟩ := zH_get ho
    have := hinv.self a r o' g1
    rcases g2 with ⟨_, rfl⟩ | rfl
    · intro e he x hx
      simp only [zO, List.mem_map] at he
      obtain ⟨e', he', rfl⟩ := he
      simp only [List.mem_map] at hx
      obtain ⟨x', hx', rfl⟩ := hx
      have := this e' he' x' hx'
      cases x' <;> first | exact this | trivial
    · exact this
  · obtain ⟨v, v1, v2⟩ := htm t x hx
    refine ⟨v, v1, ?_⟩
    show x.rel ρ (zH s.H d) (Xo X ρ (zH s.H d)) w v
    rw [zH_Xo]
    exact zH_tv v2
end Go.Proofs.YtennjcjjegbhgaaGreat
namespace Go.Proofs.YtennjcjjegbhgaaGreat
open Go.RowKit
def spn (d : Nat) (l : List Nat) : List (List AV) := l.mapIdx fun k c => [.sl d (k + 1) 0 c]
def rwO (r : List Int) : OObj := ⟨51, 2, lc fZ r⟩
def mxO (d : Nat) (R : List (List Int)) : List OObj := ⟨120, 1, spn d (R.map List.length)⟩ :: R.map rwO
def zst (d n c i : Nat) : List OObj := ⟨120, 1, spn d (List.replicate i c) ++ List.replicate (n - i) [.p (.sl [])]⟩ :: List.replicate i (rwO (List.replicate c 0))
theorem spn_len (d : Nat) (l : List Nat) : (spn d l).length = l.length := by simp [spn]
theorem spn_snoc (d : Nat) (l : List Nat) (c : Nat) : spn d (l ++ [c]) = spn d l ++ [[.sl d (l.length + 1) 0 c]] := by simp [spn, List.mapIdx_append]
theorem spn_z (d : Nat) (l : List Nat) : (spn d l).map (List.map zAV) = spn d l := by
  apply List.ext_getElem?
  intro k
  simp only [spn, List.getElem?_map, List.getElem?_mapIdx]
  cases l[k]? <;> rfl
theorem rw_z (r : List Int) : (lc fZ r).map (List.map zAV) = lc fZ r := by simp [lc, fZ, zAV, zPV]
theorem zst_start (d n c : Nat) : ([⟨120, 1, List.replicate n [.raw (.slice none 0 0)]⟩] : List OObj).map zO = zst d n c 0 := by
  simp [zst, zO, spn, zAV, zPV]
theorem zst_done (d n c : Nat) : zst d n c n = mxO d (List.replicate n (List.replicate c 0)) := by
  simp [zst, mxO]
theorem zst_get {d n c i : Nat} (hi : i < n) : (spn d (List.replicate i c) ++ List.replicate (n - i) [AV.p (PV.sl [])])[i]? = some [.p (.sl [])] := by
  rw [List.getElem?_append_right (by simp [spn_len]), spn_len, List.length_replicate, Nat.sub_self, List.getElem?_replicate, if_pos (by omega)]
theorem zst_step {d n c i : Nat} (hi : i < n) :
    ((⟨120, 1, (spn d (List.replicate i c) ++ List.replicate (n - i) [AV.p (PV.sl [])]).set i [.sl d (i + 1) 0 c]⟩ :: List.replicate i (rwO (List.replicate c 0)) ++ [⟨51, 2, List.replicate c [.raw (.bool false), .raw (.slice none 0 0)]⟩] : List OObj)).map zO = zst d n c (i + 1) := by
  have e1 : (spn d (List.replicate i c) ++ List.replicate (n - i) [AV.p (PV.sl [])]).set i [.sl d (i + 1) 0 c] = spn d (List.replicate (i + 1) c) ++ List.replicate (n - (i + 1)) [AV.p (PV.sl [])] := by
    rw [List.set_append_right _ _ (by simp [spn_len]), spn_len, List.length_replicate, Nat.sub_self, List.replicate_succ' (n := i), spn_snoc, List.length_replicate, List.append_assoc]
    congr 1
    rw [show n - i = n - (i + 1) + 1 by omega, List.replicate_succ]
    rfl
  rw [e1]
  simp only [List.cons_append, List.map_cons, List.map_append, List.map_replicate, zst]
  congr 1
  · simp [zO, spn_z, zAV, zPV]
  · rw [List.replicate_succ']
    congr 1
    · congr 1
      simp [zO, rwO, rw_z]
    · simp [zO, rwO, lc, fZ, zAV, zPV, limbs_zero, ls]
theorem spn_ren (d e : Nat) (l : List Nat) : (spn d l).map (List.map (renAV e)) = spn e l := by
  apply List.ext_getElem?
  intro k
  simp only [spn, List.getElem?_map, List.getElem?_mapIdx]
  cases l[k]? <;> rfl
theorem rwO_ren (e : Nat) (r : List Int) : renO e (rwO r) = rwO r := by simp [renO, rwO, lc_ren]
theorem mxO_ren (d e : Nat) (R : List (List Int)) : (mxO d R).map (renO e) = mxO e R := by
  simp only [mxO, List.map_cons, List.map_map]
  congr 1
  · simp [renO, spn_ren]
  · exact List.map_congr_left fun r _ => rwO_ren e r
structure ZrG (n : Nat) where
  i : Nat
  hi : i ≤ n
set_option maxRecDepth 100000 in
set_option maxHeartbeats 4000000 in
theorem Zero_C (n c : Nat) (hn : n ≤ 16) (hc : c ≤ 16) : CallC Tryz.prog 109 [.raw (.int .i64 (n : Int)), .raw (.int .i64 (c : Int))] ⟨mxO 0 (List.replicate n (List.replicate c 0)), .one (.sl 0 0 0 n)⟩ := by
  refine callC_of Tryz.func109 rfl (by kernel_rfl) ?_; rw [Tryz.ntmps109]
  (refine WpA_sreg [] [] (by simp) fun K hK => ?_; simp (disch := omega) only [kc, prep1, Nat.reduceAdd, List.replicate, ofConst, Value.oneCell']; (with_reducible refine hK _ ?_))
  (refine WpA_sreg [] [] (by simp) fun K hK => ?_; simp (disch := omega) only [kc, prep1, Nat.reduceAdd, opS_makeSlice, newS, effA, ty_slice62, ty_zero120, ty_sz120, ty_by120, Int.natCast_nonneg, Value.oneCell', and_true, ifT]; (with_reducible refine hK _ ?_))
  (refine WpA_seq (WpA_sreg [] [] (by simp) fun K hK => ?_); simp (disch := omega) only [kc, prep1, Nat.reduceAdd, opS_len, effR, ty_slice62, ofConst, Value.oneCell']; (with_reducible refine hK _ ?_))
  refine WpA_forb (G := ZrG n) (fun g => ⟨[.raw (.int .i64 (n : Int)), .raw (.int .i64 (c : Int)), jk, jk, .raw (.slice none 0 0), .one (.sl 8 0 0 n), jk, jk, jk, jk, .raw (.int .i64 (n : Int)), .raw (.int .i64 (g.i : Int)), jk, jk, jk, jk, jk, jk, jk, jk, jk], Hm [(8, zst 8 n c g.i)]⟩) (fun g => n - g.i) ⟨0, by omega⟩ ?_ ?_
  · refine (Weak_zH 8).trans (Weak_sub ⟨zst_start 8 n c, trivial⟩ ?_)
    simp [wkL, okTV, okAV]
  · rintro ⟨i, hi⟩
    simp only
    by_cases hm : i < n
    · (refine WpA_sreg [] [] (by simp) fun K hK => ?_; simp (disch := omega) only [kc, prep1, Hm, effM, evBin, decT]; (with_reducible refine hK _ ?_))
      refine WpA_seq (WpA_cond rfl (fun _ => WpA_skip ?_) (fun h => by simp at h <;> omega))
      refine WpA_seq (WpA_block ?_)
      (refine WpA_sreg [] [] (by simp) fun K hK => ?_; simp (disch := omega) only [kc, prep1]; (with_reducible refine hK _ ?_))
      simp only [zst]
      have hg := zst_get (d := 8) (c := c) hm
      ((refine WpA_lreg [] [] (by simp) fun K hK => ?_); simp (disch := omega) only [kc, prep1, Nat.reduceAdd, opS_makeSlice, newS, effA, ty_slice120, ty_zero51, ty_sz51, ty_by51, Int.natCast_nonneg, Value.oneCell', and_true, ifT, Nat.reduceEqDiff, opS_indexAddr, effR, natOf_pos, ty_slice62, updH, ty_sz120, opS_store, wrS, effD, hg, putCells, ifF, List.length_replicate, List.all_replicate, isPure, ite_self, killTV, killAV, Nat.reduceBEq]; (with_reducible refine hK _ ?_))
      show WpA _ _ _ _
      ((refine WpA_lreg [] [] (by simp) fun K hK => ?_); simp (disch := omega) only [kc, prep1, effM, ofConst, Value.oneCell', evBin, wrapI]; (with_reducible refine hK _ ?_))
      refine ⟨⟨i + 1, by omega⟩, by simp only; omega, (Weak_zH 8).trans (Weak_sub ⟨zst_step hm, trivial⟩ ?_)⟩
      simp [wkL, okTV, okAV]
    · have hin : i = n := by omega
      subst hin
      (refine WpA_sreg [] [] (by simp) fun K hK => ?_; simp (disch := omega) only [kc, prep1, Hm, effM, evBin, decF]; (with_reducible refine hK _ ?_))
      refine WpA_seq (WpA_cond rfl (fun h => by simp at h <;> omega) (fun _ => WpA_exit ?_))
      show WpA _ _ _ _
      rw [zst_done]
      (refine WpA_sreg [] [] (by simp) fun K hK => ?_; simp (disch := omega) only [kc, prep1]; (with_reducible refine hK _ ?_))
      refine WpA_ret ⟨.inr rfl, _, Weak.refl _, ?_⟩
      refine ⟨.one (.sl 8 0 0 i), 8, ?_, rfl, ?_, rfl⟩
      · simp (disch := omega) only [resA, Tryz.results109, resOne, List.getElem?_cons_succ, List.getElem?_cons_zero]
      · exact (mxO_ren 8 0 _).symm
end Go.Proofs.YtennjcjjegbhgaaGreat
namespace Go.Proofs.YtennjcjjegbhgaaGreat
open Go.RowKit
def sw (p q r : Nat) : Nat := if r = p then q else if r = q then p else r
theorem sw_sw (p q r : Nat) : sw p q (sw p q r) = r := by
  unfold sw
  by_cases h1 : r = p
  · subst h1; by_cases h2 : q = r <;> simp [h2]
  · by_cases h2 : r = q
    · subst h2; simp [h1]
    · simp [h1, h2]
def ixS (a p q b r : Nat) : Nat := if b = a then sw p q r else r
theorem ixS_ixS (a p q b r : Nat) : ixS a p q b (ixS a p q b r) = r := by
  unfold ixS
  by_cases h : b = a <;> simp [h, sw_sw]
def swAV (a p q : Nat) : AV → AV
  | .sl b r off len => .sl b (ixS a p q b r) off len
  | .ptr b r i j => .ptr b (ixS a p q b r) i j
  | x => x
def swTV (a p q : Nat) : TV → TV
  | .one x => .one (swAV a p q x)
  | .agg cs => .agg (cs.map (swAV a p q))
  | .tup ts => .tup (ts.map fun t => (t.1, t.2.map (swAV a p q)))
def swO (a p q : Nat) (o : OObj) : OObj := { o with elems := o.elems.map (List.map (swAV a p q)) }
theorem Weak_sw {s : AS} (a p q : Nat) (F : List OObj) (hF : ∀ r : Nat, F[r]? = ((s.H a)[sw p q r]?).map (swO a p q)) : Weak s ⟨s.tmps.map (swTV a p q), updH s.H a F⟩ := by
  rintro w0 O X act w ⟨h1, hsz, ρ, hinv, htm⟩
  have hof : ∀ (b r : Nat) o, (s.H b)[r]? = some o → ∃ o' : OObj, (updH s.H a F b)[ixS a p q b r]? = some o' ∧ o'.es = o.es ∧ o'.elems.length = o.elems.length := fun b r o ho => by
    by_cases hb : b = a
    · subst hb
      refine ⟨swO b p q o, ?_, rfl, by simp [swO]⟩
      rw [updH_eq, ixS, if_pos rfl, hF, sw_sw, ho]; rfl
    · exact ⟨o, by rw [updH_ne hb, ixS, if_neg hb]; exact ho, rfl, rfl⟩
  have hget : ∀ (b r : Nat) o', (updH s.H a F b)[r]? = some o' → ∃ o : OObj, (s.H b)[ixS a p q b r]? = some o ∧ ((b = a ∧ o' = swO a p q o) ∨ (b ≠ a ∧ o' = o)) := fun b r o' ho => by
    by_cases hb : b = a
    · subst hb
      rw [updH_eq, hF] at ho
      obtain ⟨o, g1, g2⟩ := Option.map_eq_some_iff.1 ho
      exact ⟨o, by rw [ixS, if_pos rfl]; exact g1, .inl ⟨rfl, g2.symm⟩⟩
    · rw [updH_ne hb] at ho
      exact ⟨o', by rw [ixS, if_neg hb]; exact ho, .inr ⟨hb, rfl⟩⟩
  let ρ' : Rho := fun b r => ρ b (ixS a p q b r)
  have hρ : ∀ b r, ρ' b (ixS a p q b r) = ρ b r := fun b r => by show ρ b _ = _; rw [ixS_ixS]
  have hXo : Xo X ρ' (updH s.H a F) = Xo X ρ s.H := by
    funext b
    apply propext
    constructor
    · rintro (h | ⟨x, r, o, c, g1, g2⟩)
      · exact .inl h
      · obtain ⟨o', g3, _⟩ := hget x r o g1
        exact .inr ⟨x, _, o', c, g3, g2⟩
    · rintro (h | ⟨x, r, o, c, g1, g2⟩)
      · exact .inl h
      · obtain ⟨o', g3, _⟩ := hof x r o g1
        exact .inr ⟨x, _, o', c, g3, by rw [hρ]; exact g2⟩
  have hav : ∀ (Y : Nat → Prop) x v, AV.rel ρ s.H Y w x v → AV.rel ρ' (updH s.H a F) Y w (swAV a p q x) v := fun Y x v h => by
    cases x with
    | p x => exact h
    | junk => trivial
    | sl b r off len =>
      obtain ⟨o, g1, g2, g3⟩ := h
      obtain ⟨o', k1, k2, k3⟩ := hof b r o g1
      exact ⟨o', k1, by omega, by rw [hρ, k2]; exact g3⟩
    | ptr b r i j =>
      obtain ⟨o, b', c, g1, g2, g3, g4⟩ := h
      obtain ⟨o', k1, k2, k3⟩ := hof b r o g1
      exact ⟨o', b', c, k1, by rw [hρ]; exact g2, by omega, by rw [k2]; exact g4⟩
  have hagg : ∀ (Y : Nat → Prop) cs v, aggRel ρ s.H Y w cs v → aggRel ρ' (updH s.H a F) Y w (cs.map (swAV a p q)) v := fun Y cs v ⟨vs, g1, g2, g3⟩ => by
    refine ⟨vs, g1, by simpa using g2, fun j x hx => ?_⟩
    rw [List.getElem?_map] at hx
    obtain ⟨y, hy, rfl⟩ := Option.map_eq_some_iff.1 hx
    obtain ⟨u, u1, u2, u3⟩ := g3 j y hy
    exact ⟨u, u1, u2, hav Y y u u3⟩
  refine ⟨h1, by simpa using hsz, ρ', ⟨hinv.keep, fun b r o' ho => ?_, fun b r b' r' o o' x c c' ho ho' hb hb' => ?_, fun b r o x c ho hb => ?_, hinv.bar, fun b r o' ho => ?_⟩, fun t x hx => ?_⟩
  · obtain ⟨o, g1, g2⟩ := hget b r o' ho
    have hob := hinv.objs b _ o g1
    have hself := hinv.self b _ o g1
    show objRel ρ' (updH s.H a F) (Xo X ρ' (updH s.H a F)) w b r o'
    rw [hXo]
    obtain ⟨q1, q2, q3⟩ := hob
    rcases g2 with ⟨rfl, rfl⟩ | ⟨hb, rfl⟩
    · refine ⟨fun e he => ?_, q2, ?_⟩
      · simp only [swO, List.mem_map] at he
        obtain ⟨e', he', rfl⟩ := he
        simp only [List.length_map, swO]
        exact q1 e' he'
      · show match ρ b (ixS b p q b r) with | none => _ | some (b, c) => _
        cases hr : ρ b (ixS b p q b r) with
        | none => rw [hr] at q3; simp only at q3 ⊢; simp [swO, q3]
        | some bc =>
          obtain ⟨b2, c⟩ := bc
          rw [hr] at q3
          obtain ⟨cells, p1, p2, p3, p4, p5⟩ := q3
          refine ⟨cells, p1, p2, by simpa [swO] using p3, p4, fun i e j x hi hj => ?_⟩
          simp only [swO, List.getElem?_map] at hi
          obtain ⟨e', he', rfl⟩ := Option.map_eq_some_iff.1 hi
          simp only [List.getElem?_map] at hj
          obtain ⟨x', hx', rfl⟩ := Option.map_eq_some_iff.1 hj
          obtain ⟨v, v1, v2, v3⟩ := p5 i e' j x' he' hx'
          exact ⟨v, v1, v2, hav _ _ _ v3⟩
    · refine ⟨q1, q2, ?_⟩
      show match ρ b (ixS a p q b r) with | none => _ | some (b, c) => _
      cases hr : ρ b (ixS a p q b r) with
      | none => rw [hr] at q3; exact q3
      | some bc =>
        obtain ⟨b2, c⟩ := bc
        rw [hr] at q3
        obtain ⟨cells, p1, p2, p3, p4, p5⟩ := q3
        refine ⟨cells, p1, p2, p3, p4, fun i e j x hi hj => ?_⟩
        obtain ⟨v, v1, v2, v3⟩ := p5 i e j x hi hj
        have hs := hself e (List.mem_of_getElem? hi) x (List.mem_of_getElem? hj)
        have hx : swAV a p q x = x := by
          cases x with
          | sl z _ _ _ => have hs : z = b := hs; subst hs; simp [swAV, ixS, hb]
          | ptr z _ _ _ => have hs : z = b := hs; subst hs; simp [swAV, ixS, hb]
          | p z => rfl
          | junk => rfl
        have := hav _ _ _ v3
        rw [hx] at this
        exact ⟨v, v1, v2, this⟩
  · obtain ⟨o1, g1, _⟩ := hget b r o ho
    obtain ⟨o2, g2, _⟩ := hget b' r' o' ho'
    obtain ⟨e1, e2⟩ := hinv.inj b _ b' _ o1 o2 x c c' g1 g2 hb hb'
    subst e1
    refine ⟨rfl, ?_⟩
    rw [← ixS_ixS a p q b r, e2, ixS_ixS]
  · obtain ⟨o1, g1, _⟩ := hget b r o ho
    exact hinv.old b _ o1 x c g1 hb
  · obtain ⟨o, g1, g2⟩ := hget b r o' ho
    have hs := hinv.self b _ o g1
    rcases g2 with ⟨rfl, rfl⟩ | ⟨hb, rfl⟩
    · intro e he x hx
      simp only [swO, List.mem_map] at he
      obtain ⟨e', he', rfl⟩ := he
      simp only [List.mem_map] at hx
      obtain ⟨x', hx', rfl⟩ := hx
      have := hs e' he' x' hx'
      cases x' <;> first | exact this | trivial
    · exact hs
  · simp only [List.getElem?_map] at hx
    obtain ⟨y, hy, rfl⟩ := Option.map_eq_some_iff.1 hx
    obtain ⟨v, v1, v2⟩ := htm t y hy
    refine ⟨v, v1, ?_⟩
    show TV.rel ρ' (updH s.H a F) (Xo X ρ' (updH s.H a F)) w (swTV a p q y) v
    rw [hXo]
    cases y with
    | one x => exact hav _ _ _ v2
    | agg cs => exact hagg _ _ _ v2
    | tup ts =>
      obtain ⟨vs, g1, g2, g3⟩ := v2
      refine ⟨vs, g1, by simpa using g2, fun j b cs hj => ?_⟩
      rw [List.getElem?_map] at hj
      obtain ⟨z, hz, hzz⟩ := Option.map_eq_some_iff.1 hj
      obtain ⟨b', cs'⟩ := z
      simp at hzz
      obtain ⟨rfl, rfl⟩ := hzz
      obtain ⟨u, u1, u2⟩ := g3 j b' cs' hz
      refine ⟨u, u1, ?_⟩
      rcases u2 with ⟨u2, u3⟩ | ⟨u2, q', rfl, u4⟩
      · exact .inl ⟨u2, hagg _ _ _ u3⟩
      · exact .inr ⟨u2, _, rfl, hav _ _ _ u4⟩
end Go.Proofs.YtennjcjjegbhgaaGreat
