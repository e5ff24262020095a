/-
  Part 6 of a proof (walks and plain facts).
-/
import Derived.Test.YtennjcjjegbhgaaGreatP04
import Derived.Shelf.Spec.BitsCarry
import Derived.Shelf.Bits.Mul64

namespace Go.Proofs.YtennjcjjegbhgaaGreat
open Go.RowKit

/-- A row as an element of a matrix. -/
def fR {α : Type} (f : α → List PV) (r : List α) : List PV := [.sl (ls f r)]
theorem fR_len {α : Type} (f : α → List PV) (r : List α) : (fR f r).length = 1 := rfl
abbrev slM (M : List (List Int)) : TV := .one (.p (.sl (ls (fR fZ) M)))
abbrev rOk (n : Nat) (r : List Int) : Prop := 1 ≤ r.length ∧ r.length ≤ 16 ∧ r.length = n
/-- The shapes that are allowed. -/
def ShP (M : List (List Int)) : Prop := 1 ≤ M.length ∧ M.length ≤ 16 ∧ ∀ r ∈ M, rOk (M.headD []).length r
instance (M : List (List Int)) : Decidable (ShP M) := by unfold ShP; exact inferInstance
def shT (M : List (List Int)) : TV := if ShP M then .tup [(false, [.p (.raw (.int .i64 (M.length : Int)))]), (false, [.p (.raw (.int .i64 ((M.headD []).length : Int)))]), (false, [.p (.raw (.bool true))])]
  else .tup [(false, [.p (.raw (.int .i64 0))]), (false, [.p (.raw (.int .i64 0))]), (false, [.p (.raw (.bool false))])]
theorem shT_no {M : List (List Int)} (h : ¬ ShP M) : shT M = .tup [(false, [.p (.raw (.int .i64 0))]), (false, [.p (.raw (.int .i64 0))]), (false, [.p (.raw (.bool false))])] := by unfold shT; rw [if_neg h]
theorem shT_yes {M : List (List Int)} (h : ShP M) : shT M = .tup [(false, [.p (.raw (.int .i64 (M.length : Int)))]), (false, [.p (.raw (.int .i64 ((M.headD []).length : Int)))]), (false, [.p (.raw (.bool true))])] := by unfold shT; rw [if_pos h]
theorem headD_at {M : List (List Int)} (h : 1 ≤ M.length) : M[0]? = some (M.headD []) := by cases M with
  | nil => simp at h
  | cons r M => rfl

structure ShG (M : List (List Int)) where
  i : Nat
  hi : i ≤ M.length
  ok : ∀ r ∈ M.take i, rOk (M.headD []).length r


set_option maxRecDepth 100000 in
set_option maxHeartbeats 4000000 in
theorem Shape_C (M : List (List Int)) : CallC Tryz.prog 112 [slM M] ⟨[], shT M⟩ := by
  by_cases h1 : M.length < 1
  · rw [shT_no (fun h => by have := h.1; omega)]
    refine callC_of Tryz.func112 rfl (by kernel_rfl) ?_; rw [Tryz.ntmps112]
    ((first | refine WpA_sreg [] [] (by simp) fun K hK => ?_ | refine WpA_seq (WpA_sreg [] [] (by simp) fun K hK => ?_) | refine WpA_seq (WpA_seq (WpA_sreg [] [] (by simp) fun K hK => ?_))); simp (disch := omega) only [prepL, prep1, Nat.zero_add, Nat.reduceAdd, slM, List.length_cons, List.length_nil, List.replicate, List.cons_append, List.nil_append, runS_cons, opS_assign, AS.ev, ofConst, Value.oneCell', if_true, Option.map_some, AS.put, List.set_cons_succ, List.set_cons_zero, runS_nil]; (with_reducible refine hK _ ?_); clear hK K)
    ((first | refine WpA_sreg [] [] (by simp) fun K hK => ?_ | refine WpA_seq (WpA_sreg [] [] (by simp) fun K hK => ?_) | refine WpA_seq (WpA_seq (WpA_sreg [] [] (by simp) fun K hK => ?_))); simp (disch := omega) only [prepL, prep1, Nat.zero_add, Nat.reduceAdd, List.getElem?_toArray, List.getElem?_cons_succ, List.getElem?_cons_zero, Option.bind_some, runS_cons, opS_move, AS.ev, Option.map_some, AS.put, List.set_cons_succ, List.set_cons_zero, opS_len, effR, ty_slice62, ls_len, opS_bin, effM, ofConst, Value.oneCell', if_true, evBin, decT, stS_guard, reduceCtorEq, if_false, Option.map_none, opS_pick, runS_nil]; (with_reducible refine hK _ ?_); clear hK K)
    refine WpA_cond rfl (fun _ => ?_) (fun h => by simp at h <;> omega)
    ((first | refine WpA_sreg [] [] (by simp) fun K hK => ?_ | refine WpA_seq (WpA_sreg [] [] (by simp) fun K hK => ?_) | refine WpA_seq (WpA_seq (WpA_sreg [] [] (by simp) fun K hK => ?_))); simp (disch := omega) only [prepL, prep1, Nat.zero_add, Nat.reduceAdd, runS_cons, opS_assign, AS.ev, ofConst, Value.oneCell', if_true, Option.map_some, AS.put, List.set_cons_succ, List.set_cons_zero, runS_nil]; (with_reducible refine hK _ ?_); clear hK K)
    (refine WpA_ret ⟨.inr rfl, ret_now rfl ?_ rfl⟩; simp (disch := omega) only [resA, Tryz.results112, resL, resOne, List.getElem?_cons_succ, List.getElem?_cons_zero, Option.bind_some, tvPair, Option.map_some])
  by_cases h2 : 16 < M.length
  · rw [shT_no (fun h => by have := h.2.1; omega)]
    refine callC_of Tryz.func112 rfl (by kernel_rfl) ?_; rw [Tryz.ntmps112]
    ((first | refine WpA_sreg [] [] (by simp) fun K hK => ?_ | refine WpA_seq (WpA_sreg [] [] (by simp) fun K hK => ?_) | refine WpA_seq (WpA_seq (WpA_sreg [] [] (by simp) fun K hK => ?_))); simp (disch := omega) only [prepL, prep1, Nat.zero_add, Nat.reduceAdd, slM, List.length_cons, List.length_nil, List.replicate, List.cons_append, List.nil_append, runS_cons, opS_assign, AS.ev, ofConst, Value.oneCell', if_true, Option.map_some, AS.put, List.set_cons_succ, List.set_cons_zero, runS_nil]; (with_reducible refine hK _ ?_); clear hK K)
    ((first | refine WpA_sreg [] [] (by simp) fun K hK => ?_ | refine WpA_seq (WpA_sreg [] [] (by simp) fun K hK => ?_) | refine WpA_seq (WpA_seq (WpA_sreg [] [] (by simp) fun K hK => ?_))); simp (disch := omega) only [prepL, prep1, Nat.zero_add, Nat.reduceAdd, List.getElem?_toArray, List.getElem?_cons_succ, List.getElem?_cons_zero, Option.bind_some, runS_cons, opS_move, AS.ev, Option.map_some, AS.put, List.set_cons_succ, List.set_cons_zero, opS_len, effR, ty_slice62, ls_len, opS_bin, effM, ofConst, Value.oneCell', if_true, evBin, decF, stS_guard, ifT, decT, opS_pick, runS_nil]; (with_reducible refine hK _ ?_); clear hK K)
    refine WpA_cond rfl (fun _ => ?_) (fun h => by simp at h <;> omega)
    ((first | refine WpA_sreg [] [] (by simp) fun K hK => ?_ | refine WpA_seq (WpA_sreg [] [] (by simp) fun K hK => ?_) | refine WpA_seq (WpA_seq (WpA_sreg [] [] (by simp) fun K hK => ?_))); simp (disch := omega) only [prepL, prep1, Nat.zero_add, Nat.reduceAdd, runS_cons, opS_assign, AS.ev, ofConst, Value.oneCell', if_true, Option.map_some, AS.put, List.set_cons_succ, List.set_cons_zero, runS_nil]; (with_reducible refine hK _ ?_); clear hK K)
    (refine WpA_ret ⟨.inr rfl, ret_now rfl ?_ rfl⟩; simp (disch := omega) only [resA, Tryz.results112, resL, resOne, List.getElem?_cons_succ, List.getElem?_cons_zero, Option.bind_some, tvPair, Option.map_some])
  have h0 := headD_at (M := M) (by omega)
  refine callC_of Tryz.func112 rfl (by kernel_rfl) ?_; rw [Tryz.ntmps112]
  ((first | refine WpA_sreg [] [] (by simp) fun K hK => ?_ | refine WpA_seq (WpA_sreg [] [] (by simp) fun K hK => ?_) | refine WpA_seq (WpA_seq (WpA_sreg [] [] (by simp) fun K hK => ?_))); simp (disch := omega) only [prepL, prep1, Nat.zero_add, Nat.reduceAdd, slM, List.length_cons, List.length_nil, List.replicate, List.cons_append, List.nil_append, runS_cons, opS_assign, AS.ev, ofConst, Value.oneCell', if_true, Option.map_some, AS.put, List.set_cons_succ, List.set_cons_zero, runS_nil]; (with_reducible refine hK _ ?_); clear hK K)
  ((first | refine WpA_sreg [] [] (by simp) fun K hK => ?_ | refine WpA_seq (WpA_sreg [] [] (by simp) fun K hK => ?_) | refine WpA_seq (WpA_seq (WpA_sreg [] [] (by simp) fun K hK => ?_))); simp (disch := omega) only [prepL, prep1, Nat.zero_add, Nat.reduceAdd, List.getElem?_toArray, List.getElem?_cons_succ, List.getElem?_cons_zero, Option.bind_some, runS_cons, opS_move, AS.ev, Option.map_some, AS.put, List.set_cons_succ, List.set_cons_zero, opS_len, effR, ty_slice62, ls_len, opS_bin, effM, ofConst, Value.oneCell', if_true, evBin, decF, stS_guard, ifT, opS_pick, runS_nil]; (with_reducible refine hK _ ?_); clear hK K)
  refine WpA_cond rfl (fun h => by simp at h <;> omega) (fun _ => WpA_skip ?_)
  show WpA _ _ _ _
  ((first | refine WpA_sreg [] [] (by simp) fun K hK => ?_ | refine WpA_seq (WpA_sreg [] [] (by simp) fun K hK => ?_) | refine WpA_seq (WpA_seq (WpA_sreg [] [] (by simp) fun K hK => ?_))); simp (disch := omega) only [prepL, prep1, Nat.zero_add, Nat.reduceAdd, runS_cons, opS_move, AS.ev, List.getElem?_cons_zero, Option.map_some, AS.put, List.set_cons_succ, List.set_cons_zero, opS_len, effR, ty_slice62, List.getElem?_cons_succ, ls_len, ofConst, Value.oneCell', if_true, runS_nil]; (with_reducible refine hK _ ?_); clear hK K)
  refine WpA_forb (G := ShG M) (fun g => ⟨[slM M, .one .junk, .raw (.int .i64 0), .raw (.int .i64 0), .raw (.bool false), .one .junk, .one .junk, .one .junk, .one .junk, .one .junk, .one .junk, .one .junk, .one .junk, .one .junk, .one .junk, slM M, .raw (.int .i64 (M.length : Int)), .raw (.int .i64 (g.i : Int)), .one .junk, .one .junk, .one .junk, .one .junk, .one .junk, .one .junk, .one .junk, .one .junk, .one .junk, .one .junk, .one .junk, .one .junk, .one .junk, .one .junk, .one .junk, .one .junk, .one .junk, .one .junk, .one .junk, .one .junk, .one .junk, .one .junk, .one .junk, .one .junk, .one .junk, .one .junk, .one .junk], Hm []⟩) (fun g => M.length - g.i) ⟨0, by omega, fun r hr => by simp at hr⟩ ?_ ?_
  · refine Weak_sub trivial ?_
    simp [wkL, okTV, okAV]
  · rintro ⟨i, hi, ok⟩
    simp only
    by_cases hm : i < M.length
    · obtain ⟨r, hr⟩ := getElem?_of_lt hm
      have hmem : r ∈ M := List.mem_of_getElem? hr
      ((first | refine WpA_sreg [] [] (by simp) fun K hK => ?_ | refine WpA_seq (WpA_sreg [] [] (by simp) fun K hK => ?_) | refine WpA_seq (WpA_seq (WpA_sreg [] [] (by simp) fun K hK => ?_))); simp (disch := omega) only [prepL, prep1, slM, Hm, runS_cons, opS_bin, effM, AS.ev, List.getElem?_cons_succ, List.getElem?_cons_zero, evBin, decT, if_true, Option.map_some, AS.put, List.set_cons_succ, List.set_cons_zero, runS_nil]; (with_reducible refine hK _ ?_); clear hK K)
      refine WpA_seq (WpA_cond rfl (fun _ => WpA_skip ?_) (fun h => by simp at h <;> omega))
      refine WpA_seq (WpA_block ?_)
      ((first | refine WpA_sreg [] [] (by simp) fun K hK => ?_ | refine WpA_seq (WpA_sreg [] [] (by simp) fun K hK => ?_) | refine WpA_seq (WpA_seq (WpA_sreg [] [] (by simp) fun K hK => ?_))); simp (disch := omega) only [prepL, prep1, Nat.zero_add, Nat.reduceAdd, runS_cons, opS_indexAddr, effR, AS.ev, List.getElem?_cons_succ, List.getElem?_cons_zero, natOf_pos, Int.toNat_natCast, ty_slice62, ls_get, hr, Option.map_some, fR, ty_sz120, List.length_cons, List.length_nil, if_true, AS.put, List.set_cons_succ, List.set_cons_zero, opS_load, packT, ty_agg120, List.map_cons, List.map_nil, opS_assign, runS_nil]; (with_reducible refine hK _ ?_); clear hK K)
      by_cases c1 : r.length < 1
      · rw [shT_no (fun h => by have := (h.2.2 r hmem).1; omega)]
        ((first | refine WpA_sreg [] [] (by simp) fun K hK => ?_ | refine WpA_seq (WpA_sreg [] [] (by simp) fun K hK => ?_) | refine WpA_seq (WpA_seq (WpA_sreg [] [] (by simp) fun K hK => ?_))); simp (disch := omega) only [prepL, prep1, Nat.zero_add, Nat.reduceAdd, List.getElem?_toArray, List.getElem?_cons_succ, List.getElem?_cons_zero, Option.bind_some, runS_cons, opS_move, AS.ev, Option.map_some, AS.put, List.set_cons_succ, List.set_cons_zero, opS_len, effR, ty_slice120, ls_len, opS_bin, effM, ofConst, Value.oneCell', if_true, evBin, decT, stS_guard, reduceCtorEq, if_false, Option.map_none, opS_pick, opS_indexAddr, natOf_pos, Int.reduceToNat, ty_slice62, opS_load, runS_nil]; (with_reducible refine hK _ ?_); clear hK K)
        refine WpA_cond rfl (fun _ => ?_) (fun h => by simp at h <;> omega)
        ((first | refine WpA_sreg [] [] (by simp) fun K hK => ?_ | refine WpA_seq (WpA_sreg [] [] (by simp) fun K hK => ?_) | refine WpA_seq (WpA_seq (WpA_sreg [] [] (by simp) fun K hK => ?_))); simp (disch := omega) only [prepL, prep1, Nat.zero_add, Nat.reduceAdd, runS_cons, opS_assign, AS.ev, ofConst, Value.oneCell', if_true, Option.map_some, AS.put, List.set_cons_succ, List.set_cons_zero, runS_nil]; (with_reducible refine hK _ ?_); clear hK K)
        (refine WpA_ret ⟨.inr rfl, ret_now rfl ?_ rfl⟩; simp (disch := omega) only [resA, Tryz.results112, resL, resOne, List.getElem?_cons_succ, List.getElem?_cons_zero, Option.bind_some, tvPair, Option.map_some])
      by_cases c2 : 16 < r.length
      · rw [shT_no (fun h => by have := (h.2.2 r hmem).2.1; omega)]
        ((first | refine WpA_sreg [] [] (by simp) fun K hK => ?_ | refine WpA_seq (WpA_sreg [] [] (by simp) fun K hK => ?_) | refine WpA_seq (WpA_seq (WpA_sreg [] [] (by simp) fun K hK => ?_))); simp (disch := omega) only [prepL, prep1, Nat.zero_add, Nat.reduceAdd, List.getElem?_toArray, List.getElem?_cons_succ, List.getElem?_cons_zero, Option.bind_some, runS_cons, opS_move, AS.ev, Option.map_some, AS.put, List.set_cons_succ, List.set_cons_zero, opS_len, effR, ty_slice120, ls_len, opS_bin, effM, ofConst, Value.oneCell', if_true, evBin, decF, stS_guard, ifT, decT, opS_pick, reduceCtorEq, if_false, Option.map_none, opS_indexAddr, natOf_pos, Int.reduceToNat, ty_slice62, opS_load, runS_nil]; (with_reducible refine hK _ ?_); clear hK K)
        refine WpA_cond rfl (fun _ => ?_) (fun h => by simp at h <;> omega)
        ((first | refine WpA_sreg [] [] (by simp) fun K hK => ?_ | refine WpA_seq (WpA_sreg [] [] (by simp) fun K hK => ?_) | refine WpA_seq (WpA_seq (WpA_sreg [] [] (by simp) fun K hK => ?_))); simp (disch := omega) only [prepL, prep1, Nat.zero_add, Nat.reduceAdd, runS_cons, opS_assign, AS.ev, ofConst, Value.oneCell', if_true, Option.map_some, AS.put, List.set_cons_succ, List.set_cons_zero, runS_nil]; (with_reducible refine hK _ ?_); clear hK K)
        (refine WpA_ret ⟨.inr rfl, ret_now rfl ?_ rfl⟩; simp (disch := omega) only [resA, Tryz.results112, resL, resOne, List.getElem?_cons_succ, List.getElem?_cons_zero, Option.bind_some, tvPair, Option.map_some])
      by_cases c3 : r.length = (M.headD []).length
      · ((first | refine WpA_sreg [] [] (by simp) fun K hK => ?_ | refine WpA_seq (WpA_sreg [] [] (by simp) fun K hK => ?_) | refine WpA_seq (WpA_seq (WpA_sreg [] [] (by simp) fun K hK => ?_))); simp (disch := omega) only [prepL, prep1, Nat.zero_add, Nat.reduceAdd, List.getElem?_toArray, List.getElem?_cons_succ, List.getElem?_cons_zero, Option.bind_some, runS_cons, opS_move, AS.ev, Option.map_some, AS.put, List.set_cons_succ, List.set_cons_zero, opS_len, effR, ty_slice120, ls_len, opS_bin, effM, ofConst, Value.oneCell', if_true, evBin, decF, stS_guard, ifT, opS_pick, opS_indexAddr, natOf_pos, Int.reduceToNat, ty_slice62, ls_get, h0, fR, ty_sz120, List.length_cons, List.length_nil, opS_load, packT, ty_agg120, List.map_cons, List.map_nil, decT, Bool.not_true, runS_nil]; (with_reducible refine hK _ ?_); clear hK K)
        refine WpA_cond rfl (fun h => by simp at h <;> omega) (fun _ => WpA_skip ?_)
        show WpA _ _ _ _
        ((refine WpA_lreg [] [] (by simp) fun K hK => ?_); simp (disch := omega) only [prepL, prep1, Nat.zero_add, runS_cons, opS_bin, effM, AS.ev, List.getElem?_cons_succ, List.getElem?_cons_zero, ofConst, Value.oneCell', if_true, evBin, wrapI, Option.map_some, AS.put, List.set_cons_succ, List.set_cons_zero, opS_move, runS_nil]; (with_reducible refine hK _ ?_); clear hK K)
        refine ⟨⟨i + 1, by omega, fun r' hr' => ?_⟩, by simp only; omega, Weak_sub trivial ?_⟩
        · rw [List.take_add_one, hr] at hr'
          rcases List.mem_append.1 hr' with h | h
          · exact ok r' h
          · have : r' = r := by simpa using h
            subst this
            exact ⟨by omega, by omega, c3⟩
        · simp [wkL, okTV, okAV]
      · rw [shT_no (fun h => by have := (h.2.2 r hmem).2.2; omega)]
        ((first | refine WpA_sreg [] [] (by simp) fun K hK => ?_ | refine WpA_seq (WpA_sreg [] [] (by simp) fun K hK => ?_) | refine WpA_seq (WpA_seq (WpA_sreg [] [] (by simp) fun K hK => ?_))); simp (disch := omega) only [prepL, prep1, Nat.zero_add, Nat.reduceAdd, List.getElem?_toArray, List.getElem?_cons_succ, List.getElem?_cons_zero, Option.bind_some, runS_cons, opS_move, AS.ev, Option.map_some, AS.put, List.set_cons_succ, List.set_cons_zero, opS_len, effR, ty_slice120, ls_len, opS_bin, effM, ofConst, Value.oneCell', if_true, evBin, decF, stS_guard, ifT, opS_pick, opS_indexAddr, natOf_pos, Int.reduceToNat, ty_slice62, ls_get, h0, fR, ty_sz120, List.length_cons, List.length_nil, opS_load, packT, ty_agg120, List.map_cons, List.map_nil, Bool.not_false, runS_nil]; (with_reducible refine hK _ ?_); clear hK K)
        refine WpA_cond rfl (fun _ => ?_) (fun h => by simp at h <;> omega)
        ((first | refine WpA_sreg [] [] (by simp) fun K hK => ?_ | refine WpA_seq (WpA_sreg [] [] (by simp) fun K hK => ?_) | refine WpA_seq (WpA_seq (WpA_sreg [] [] (by simp) fun K hK => ?_))); simp (disch := omega) only [prepL, prep1, Nat.zero_add, Nat.reduceAdd, runS_cons, opS_assign, AS.ev, ofConst, Value.oneCell', if_true, Option.map_some, AS.put, List.set_cons_succ, List.set_cons_zero, runS_nil]; (with_reducible refine hK _ ?_); clear hK K)
        (refine WpA_ret ⟨.inr rfl, ret_now rfl ?_ rfl⟩; simp (disch := omega) only [resA, Tryz.results112, resL, resOne, List.getElem?_cons_succ, List.getElem?_cons_zero, Option.bind_some, tvPair, Option.map_some])
    · have hsh : ShP M := ⟨by omega, by omega, fun r hr => ok r (by rw [List.take_of_length_le (by omega)]; exact hr)⟩
      rw [shT_yes hsh]
      ((first | refine WpA_sreg [] [] (by simp) fun K hK => ?_ | refine WpA_seq (WpA_sreg [] [] (by simp) fun K hK => ?_) | refine WpA_seq (WpA_seq (WpA_sreg [] [] (by simp) fun K hK => ?_))); simp (disch := omega) only [prepL, prep1, slM, Hm, runS_cons, opS_bin, effM, AS.ev, List.getElem?_cons_succ, List.getElem?_cons_zero, evBin, decF, if_true, Option.map_some, AS.put, List.set_cons_succ, List.set_cons_zero, runS_nil]; (with_reducible refine hK _ ?_); clear hK K)
      refine WpA_seq (WpA_cond rfl (fun h => by simp at h <;> omega) (fun _ => WpA_exit ?_))
      show WpA _ _ _ _
      ((first | refine WpA_sdraw mixedA [] [] (by kernel_rfl) (by simp) fun K hK => ?_ | refine WpA_seq (WpA_sdraw mixedA [] [] (by kernel_rfl) (by simp) fun K hK => ?_) | refine WpA_seq (WpA_seq (WpA_sdraw mixedA [] [] (by kernel_rfl) (by simp) fun K hK => ?_))); simp (disch := omega) only [prepL, prep1, Nat.zero_add, Nat.reduceAdd, runS_cons, opS_move, AS.ev, List.getElem?_cons_zero, Option.map_some, AS.put, List.set_cons_succ, List.set_cons_zero, opS_len, effR, ty_slice62, List.getElem?_cons_succ, ls_len, opS_indexAddr, ofConst, Value.oneCell', if_true, natOf_pos, Int.reduceToNat, ls_get, h0, fR, ty_sz120, List.length_cons, List.length_nil, opS_load, packT, ty_agg120, List.map_cons, List.map_nil, ty_slice120, opS_assign, runS_nil]; (with_reducible refine hK _ ?_); clear hK K)
      (refine WpA_ret ⟨.inr rfl, ret_now rfl ?_ rfl⟩; simp (disch := omega) only [resA, Tryz.results112, resL, resOne, List.getElem?_cons_succ, List.getElem?_cons_zero, Option.bind_some, tvPair, Option.map_some])

/-- Square matrices of an allowed size. -/
def SqP (M : List (List Int)) : Prop := ShP M ∧ M.length = (M.headD []).length
instance (M : List (List Int)) : Decidable (SqP M) := by unfold SqP; exact inferInstance
def sqT (M : List (List Int)) : TV := if SqP M then .tup [(false, [.p (.raw (.int .i64 (M.length : Int)))]), (false, [.p (.raw (.bool true))])] else .tup [(false, [.p (.raw (.int .i64 0))]), (false, [.p (.raw (.bool false))])]

set_option maxRecDepth 100000 in
set_option maxHeartbeats 4000000 in
theorem Square_C (M : List (List Int)) : CallC Tryz.prog 114 [slM M] ⟨[], sqT M⟩ := by
  have hS := Shape_C M
  by_cases h1 : ShP M
  · rw [shT_yes h1] at hS
    by_cases h2 : M.length = (M.headD []).length
    · rw [show sqT M = _ from if_pos ⟨h1, h2⟩]
      refine callC_of Tryz.func114 rfl (by kernel_rfl) ?_; rw [Tryz.ntmps114]
      ((first | refine WpA_sreg [] [] (by simp) fun K hK => ?_ | refine WpA_seq (WpA_sreg [] [] (by simp) fun K hK => ?_) | refine WpA_seq (WpA_seq (WpA_sreg [] [] (by simp) fun K hK => ?_))); simp (disch := omega) only [prepL, prep1, Nat.zero_add, slM, List.length_cons, List.length_nil, List.replicate, List.cons_append, List.nil_append, runS_cons, opS_assign, AS.ev, ofConst, Value.oneCell', if_true, Option.map_some, AS.put, List.set_cons_succ, List.set_cons_zero, runS_nil]; (with_reducible refine hK _ ?_); clear hK K)
      ((first | refine WpA_sreg [⟨1, _, _, _, hS⟩] [] (by simp) fun K hK => ?_ | refine WpA_seq (WpA_sreg [⟨1, _, _, _, hS⟩] [] (by simp) fun K hK => ?_) | refine WpA_seq (WpA_seq (WpA_sreg [⟨1, _, _, _, hS⟩] [] (by simp) fun K hK => ?_))); simp (disch := omega) only [slM, prepL, prep1, Nat.zero_add, Nat.reduceAdd, runS_cons, opS_move, AS.ev, List.getElem?_cons_zero, Option.map_some, AS.put, List.set_cons_succ, List.set_cons_zero, opS_call, newS, effA, List.find?_cons, beq_self_eq_true, evAll, List.getElem?_cons_succ, List.map_cons, norm, List.map_nil, CallRes.plain, List.isEmpty_nil, rawTV, List.all_cons, rawAV, List.all_nil, Bool.and_self, normOk, Bool.not_true, noRefTV, noRefAV, Bool.or_true, and_self, renTV, renAV, if_true, opS_extract, effM, opS_assign, runS_nil]; (with_reducible refine hK _ ?_); clear hK K)
      ((first | refine WpA_sreg [] [] (by simp) fun K hK => ?_ | refine WpA_seq (WpA_sreg [] [] (by simp) fun K hK => ?_) | refine WpA_seq (WpA_seq (WpA_sreg [] [] (by simp) fun K hK => ?_))); simp (disch := omega) only [prepL, prep1, Nat.zero_add, Nat.reduceAdd, List.getElem?_toArray, List.getElem?_cons_succ, List.getElem?_cons_zero, Option.bind_some, runS_cons, opS_move, AS.ev, Option.map_some, AS.put, List.set_cons_succ, List.set_cons_zero, opS_un, effM, evUn, Bool.not_true, stS_guard, if_true, opS_bin, evBin, decT, ifT, opS_pick, runS_nil]; (with_reducible refine hK _ ?_); clear hK K)
      refine WpA_cond rfl (fun h => by simp at h <;> omega) (fun _ => WpA_skip ?_)
      show WpA _ _ _ _
      ((first | refine WpA_sreg [] [] (by simp) fun K hK => ?_ | refine WpA_seq (WpA_sreg [] [] (by simp) fun K hK => ?_) | refine WpA_seq (WpA_seq (WpA_sreg [] [] (by simp) fun K hK => ?_))); simp (disch := omega) only [prepL, prep1, Nat.zero_add, Nat.reduceAdd, runS_cons, opS_move, AS.ev, List.getElem?_cons_succ, List.getElem?_cons_zero, Option.map_some, AS.put, List.set_cons_succ, List.set_cons_zero, opS_assign, ofConst, Value.oneCell', if_true, runS_nil]; (with_reducible refine hK _ ?_); clear hK K)
      (refine WpA_ret ⟨.inr rfl, ret_now rfl ?_ rfl⟩; simp (disch := omega) only [resA, Tryz.results114, resL, resOne, List.getElem?_cons_succ, List.getElem?_cons_zero, Option.bind_some, tvPair, Option.map_some])
    · rw [show sqT M = _ from if_neg (fun h => h2 h.2)]
      refine callC_of Tryz.func114 rfl (by kernel_rfl) ?_; rw [Tryz.ntmps114]
      ((first | refine WpA_sreg [] [] (by simp) fun K hK => ?_ | refine WpA_seq (WpA_sreg [] [] (by simp) fun K hK => ?_) | refine WpA_seq (WpA_seq (WpA_sreg [] [] (by simp) fun K hK => ?_))); simp (disch := omega) only [prepL, prep1, Nat.zero_add, slM, List.length_cons, List.length_nil, List.replicate, List.cons_append, List.nil_append, runS_cons, opS_assign, AS.ev, ofConst, Value.oneCell', if_true, Option.map_some, AS.put, List.set_cons_succ, List.set_cons_zero, runS_nil]; (with_reducible refine hK _ ?_); clear hK K)
      ((first | refine WpA_sreg [⟨1, _, _, _, hS⟩] [] (by simp) fun K hK => ?_ | refine WpA_seq (WpA_sreg [⟨1, _, _, _, hS⟩] [] (by simp) fun K hK => ?_) | refine WpA_seq (WpA_seq (WpA_sreg [⟨1, _, _, _, hS⟩] [] (by simp) fun K hK => ?_))); simp (disch := omega) only [slM, prepL, prep1, Nat.zero_add, Nat.reduceAdd, runS_cons, opS_move, AS.ev, List.getElem?_cons_zero, Option.map_some, AS.put, List.set_cons_succ, List.set_cons_zero, opS_call, newS, effA, List.find?_cons, beq_self_eq_true, evAll, List.getElem?_cons_succ, List.map_cons, norm, List.map_nil, CallRes.plain, List.isEmpty_nil, rawTV, List.all_cons, rawAV, List.all_nil, Bool.and_self, normOk, Bool.not_true, noRefTV, noRefAV, Bool.or_true, and_self, renTV, renAV, if_true, opS_extract, effM, opS_assign, runS_nil]; (with_reducible refine hK _ ?_); clear hK K)
      ((first | refine WpA_sreg [] [] (by simp) fun K hK => ?_ | refine WpA_seq (WpA_sreg [] [] (by simp) fun K hK => ?_) | refine WpA_seq (WpA_seq (WpA_sreg [] [] (by simp) fun K hK => ?_))); simp (disch := omega) only [prepL, prep1, Nat.zero_add, Nat.reduceAdd, List.getElem?_toArray, List.getElem?_cons_succ, List.getElem?_cons_zero, Option.bind_some, runS_cons, opS_move, AS.ev, Option.map_some, AS.put, List.set_cons_succ, List.set_cons_zero, opS_un, effM, evUn, Bool.not_true, stS_guard, if_true, opS_bin, evBin, decF, Bool.not_false, ifT, opS_pick, runS_nil]; (with_reducible refine hK _ ?_); clear hK K)
      refine WpA_cond rfl (fun _ => ?_) (fun h => by simp at h <;> omega)
      ((first | refine WpA_sreg [] [] (by simp) fun K hK => ?_ | refine WpA_seq (WpA_sreg [] [] (by simp) fun K hK => ?_) | refine WpA_seq (WpA_seq (WpA_sreg [] [] (by simp) fun K hK => ?_))); simp (disch := omega) only [prepL, prep1, Nat.zero_add, runS_cons, opS_assign, AS.ev, ofConst, Value.oneCell', if_true, Option.map_some, AS.put, List.set_cons_succ, List.set_cons_zero, runS_nil]; (with_reducible refine hK _ ?_); clear hK K)
      (refine WpA_ret ⟨.inr rfl, ret_now rfl ?_ rfl⟩; simp (disch := omega) only [resA, Tryz.results114, resL, resOne, List.getElem?_cons_succ, List.getElem?_cons_zero, Option.bind_some, tvPair, Option.map_some])
  · rw [shT_no h1] at hS
    rw [show sqT M = _ from if_neg (fun h => h1 h.1)]
    refine callC_of Tryz.func114 rfl (by kernel_rfl) ?_; rw [Tryz.ntmps114]
    ((first | refine WpA_sreg [] [] (by simp) fun K hK => ?_ | refine WpA_seq (WpA_sreg [] [] (by simp) fun K hK => ?_) | refine WpA_seq (WpA_seq (WpA_sreg [] [] (by simp) fun K hK => ?_))); simp (disch := omega) only [prepL, prep1, Nat.zero_add, slM, List.length_cons, List.length_nil, List.replicate, List.cons_append, List.nil_append, runS_cons, opS_assign, AS.ev, ofConst, Value.oneCell', if_true, Option.map_some, AS.put, List.set_cons_succ, List.set_cons_zero, runS_nil]; (with_reducible refine hK _ ?_); clear hK K)
    ((first | refine WpA_sreg [⟨1, _, _, _, hS⟩] [] (by simp) fun K hK => ?_ | refine WpA_seq (WpA_sreg [⟨1, _, _, _, hS⟩] [] (by simp) fun K hK => ?_) | refine WpA_seq (WpA_seq (WpA_sreg [⟨1, _, _, _, hS⟩] [] (by simp) fun K hK => ?_))); simp (disch := omega) only [slM, prepL, prep1, Nat.zero_add, Nat.reduceAdd, runS_cons, opS_move, AS.ev, List.getElem?_cons_zero, Option.map_some, AS.put, List.set_cons_succ, List.set_cons_zero, opS_call, newS, effA, List.find?_cons, beq_self_eq_true, evAll, List.getElem?_cons_succ, List.map_cons, norm, List.map_nil, CallRes.plain, List.isEmpty_nil, rawTV, List.all_cons, rawAV, List.all_nil, Bool.and_self, normOk, Bool.not_true, noRefTV, noRefAV, Bool.or_true, and_self, renTV, renAV, if_true, opS_extract, effM, opS_assign, runS_nil]; (with_reducible refine hK _ ?_); clear hK K)
    ((first | refine WpA_sreg [] [] (by simp) fun K hK => ?_ | refine WpA_seq (WpA_sreg [] [] (by simp) fun K hK => ?_) | refine WpA_seq (WpA_seq (WpA_sreg [] [] (by simp) fun K hK => ?_))); simp (disch := omega) only [prepL, prep1, Nat.zero_add, Nat.reduceAdd, List.getElem?_toArray, List.getElem?_cons_succ, List.getElem?_cons_zero, Option.bind_some, runS_cons, opS_move, AS.ev, Option.map_some, AS.put, List.set_cons_succ, List.set_cons_zero, opS_un, effM, evUn, Bool.not_false, stS_guard, reduceCtorEq, if_false, opS_bin, Option.map_none, opS_pick, ofConst, Value.oneCell', if_true, runS_nil]; (with_reducible refine hK _ ?_); clear hK K)
    refine WpA_cond rfl (fun _ => ?_) (fun h => by simp at h <;> omega)
    ((first | refine WpA_sreg [] [] (by simp) fun K hK => ?_ | refine WpA_seq (WpA_sreg [] [] (by simp) fun K hK => ?_) | refine WpA_seq (WpA_seq (WpA_sreg [] [] (by simp) fun K hK => ?_))); simp (disch := omega) only [prepL, prep1, Nat.zero_add, runS_cons, opS_assign, AS.ev, ofConst, Value.oneCell', if_true, Option.map_some, AS.put, List.set_cons_succ, List.set_cons_zero, runS_nil]; (with_reducible refine hK _ ?_); clear hK K)
    (refine WpA_ret ⟨.inr rfl, ret_now rfl ?_ rfl⟩; simp (disch := omega) only [resA, Tryz.results114, resL, resOne, List.getElem?_cons_succ, List.getElem?_cons_zero, Option.bind_some, tvPair, Option.map_some])
end Go.Proofs.YtennjcjjegbhgaaGreat

/-
  The abstract machine: nil slices read as empty pure slices.
-/
namespace Go.Proofs.YtennjcjjegbhgaaGreat
open Go.RowKit

def zPV : PV → PV
  | .raw (.slice none 0 0) => .sl []
  | x => x
def zAV : AV → AV
  | .p x => .p (zPV x)
  | x => x
def zO (o : OObj) : OObj := { o with elems := o.elems.map (List.map zAV) }

theorem zPV_rep {X : Nat → Prop} {w : World} {x : PV} {v : Value} (h : Rep X w x v) : Rep X w (zPV x) v := by
  unfold zPV
  split
  · cases h; exact .nil none 0
  · exact h
theorem zAV_rel {ρ : Rho} {H : OH} {X : Nat → Prop} {w : World} {x : AV} {v : Value} (h : x.rel ρ H X w v) : (zAV x).rel ρ H X w v := by
  cases x with
  | p x => exact zPV_rep h
  | sl a r off len => exact h
  | ptr a r i j => exact h
  | junk => exact h

section
variable {H : OH} {d : Nat}
def zH (H : OH) (d : Nat) : OH := updH H d ((H d).map zO)

theorem zH_get {a r : Nat} {o : OObj} (h : (zH H d a)[r]? = some o) : ∃ o', (H a)[r]? = some o' ∧ ((a = d ∧ o = zO o') ∨ o = o') := by
  unfold zH at h
  by_cases ha : a = d
  · subst ha
    rw [updH_eq, List.getElem?_map] at h
    obtain ⟨o', h1, h2⟩ := Option.map_eq_some_iff.1 h
    exact ⟨o', h1, .inl ⟨rfl, h2.symm⟩⟩
  · rw [updH_ne ha] at h
    exact ⟨o, h, .inr rfl⟩
theorem zH_of {a r : Nat} {o : OObj} (h : (H a)[r]? = some o) : ∃ o', (zH H d a)[r]? = some o' ∧ o'.es = o.es ∧ o'.elems.length = o.elems.length := by
  unfold zH
  by_cases ha : a = d
  · subst ha
    exact ⟨zO o, by rw [updH_eq, List.getElem?_map, h]; rfl, rfl, by simp [zO]⟩
  · exact ⟨o, by rw [updH_ne ha]; exact h, rfl, rfl⟩
theorem zH_Xo (X : Nat → Prop) (ρ : Rho) : Xo X ρ (zH H d) = Xo X ρ H := by
  funext b
  apply propext
  constructor
  · rintro (h | ⟨a, r, o, c, h1, h2⟩)
    · exact .inl h
    · obtain ⟨o', g1, _⟩ := zH_get h1
      exact .inr ⟨a, r, o', c, g1, h2⟩
  · rintro (h | ⟨a, r, o, c, h1, h2⟩)
    · exact .inl h
    · obtain ⟨o', g1, _⟩ := zH_of (d := d) h1
      exact .inr ⟨a, r, o', c, g1, h2⟩
theorem zH_av {ρ : Rho} {X : Nat → Prop} {w : World} {x : AV} {v : Value} (h : x.rel ρ H X w v) : x.rel ρ (zH H d) X w v := by
  cases x with
  | p x => exact h
  | junk => trivial
  | sl a r off len =>
    obtain ⟨o, h1, h2, h3⟩ := h
    obtain ⟨o', g1, g2, g3⟩ := zH_of (d := d) h1
    exact ⟨o', g1, by omega, by rw [g2]; exact h3⟩
  | ptr a r i j =>
    obtain ⟨o, b, c, h1, h2, h3, h4⟩ := h
    obtain ⟨o', g1, g2, g3⟩ := zH_of (d := d) h1
    exact ⟨o', b, c, g1, h2, by omega, by rw [g2]; exact h4⟩
theorem zH_tv {ρ : Rho} {X : Nat → Prop} {w : World} {t : TV} {v : Value} (h : t.rel ρ H X w v) : t.rel ρ (zH H d) X w v := by
  have agg : ∀ {cs : List AV} {v : Value}, aggRel ρ H X w cs v → aggRel ρ (zH H d) X w cs v := fun {cs v} ⟨vs, h1, h2, h3⟩ =>
    ⟨vs, h1, h2, fun j x hx => by obtain ⟨u, u1, u2, u3⟩ := h3 j x hx; exact ⟨u, u1, u2, zH_av u3⟩⟩
  cases t with
  | one x => exact zH_av (x := x) h
  | agg cs => exact agg h
  | tup ts =>
    obtain ⟨vs, h1, h2, h3⟩ := h
    refine ⟨vs, h1, h2, fun j b cs hj => ?_⟩
    obtain ⟨u, u1, u2⟩ := h3 j b cs hj
    refine ⟨u, u1, ?_⟩
    rcases u2 with ⟨e, g⟩ | ⟨e, x, hx, g⟩
    · exact .inl ⟨e, agg g⟩
    · exact .inr ⟨e, x, hx, zH_av g⟩

theorem zO_obj {ρ : Rho} {X : Nat → Prop} {w : World} {a r : Nat} {o : OObj} (h : objRel ρ H X w a r o) : objRel ρ (zH H d) X w a r (zO o) ∧ objRel ρ (zH H d) X w a r o := by
  obtain ⟨h1, h2, h3⟩ := h
  refine ⟨⟨fun e he => ?_, h2, ?_⟩, ⟨h1, h2, ?_⟩⟩
  · simp only [zO, List.mem_map] at he
    obtain ⟨e', he', rfl⟩ := he
    simp only [List.length_map, zO]
    exact h1 e' he'
  · cases hρ : ρ a r with
    | none => rw [hρ] at h3; simp only at h3 ⊢; simp [zO, h3]
    | some bc =>
      obtain ⟨b, c⟩ := bc
      rw [hρ] at h3
      obtain ⟨cells, g1, g2, g3, g4, g5⟩ := h3
      refine ⟨cells, g1, g2, by simpa [zO] using g3, g4, fun i e j x hi hj => ?_⟩
      simp only [zO, List.getElem?_map] at hi
      obtain ⟨e', he', rfl⟩ := Option.map_eq_some_iff.1 hi
      simp only [List.getElem?_map] at hj
      obtain ⟨x', hx', rfl⟩ := Option.map_eq_some_iff.1 hj
      obtain ⟨v, v1, v2, v3⟩ := g5 i e' j x' he' hx'
      exact ⟨v, v1, v2, zAV_rel (zH_av v3)⟩
  · cases hρ : ρ a r with
    | none => rw [hρ] at h3; exact h3
    | some bc =>
      obtain ⟨b, c⟩ := bc
      rw [hρ] at h3
      obtain ⟨cells, g1, g2, g3, g4, g5⟩ := h3
      refine ⟨cells, g1, g2, g3, g4, fun i e j x hi hj => ?_⟩
      obtain ⟨v, v1, v2, v3⟩ := g5 i e j x hi hj
      exact ⟨v, v1, v2, zH_av v3⟩
end

/-- The cells of a family that are nil slices read as empty ones. -/
theorem Weak_zH {s : AS} (d : Nat) : Weak s ⟨s.tmps, zH s.H d⟩ := by
  rintro w0 O X a w ⟨h1, hsz, ρ, hinv, htm⟩
  refine ⟨h1, hsz, ρ, ⟨hinv.keep, fun a r o ho => ?_, fun a r a' r' o o' b c c' ho ho' hb hb' => ?_, fun a r o b c ho hb => ?_, hinv.bar, fun a r o ho => ?_⟩, fun t x hx => ?_⟩
  · obtain ⟨o', g1, g2⟩ := zH_get ho
    show objRel ρ (zH s.H d) (Xo X ρ (zH s.H d)) w a r o
    rw [zH_Xo]
    rcases g2 with ⟨_, rfl⟩ | rfl
    · exact (zO_obj (hinv.objs a r o' g1)).1
    · exact (zO_obj (hinv.objs a r o g1)).2
  · obtain ⟨p, g1, _⟩ := zH_get ho
    obtain ⟨p', g2, _⟩ := zH_get ho'
    exact hinv.inj a r a' r' p p' b c c' g1 g2 hb hb'
  · obtain ⟨p, g1, _⟩ := zH_get ho
    exact hinv.old a r p b c g1 hb
  · obtain ⟨o', g1, g2⟩ := zH_get ho
    have := hinv.self a r o' g1
    rcases g2 with ⟨_, rfl⟩ | rfl
    · intro e he x hx
      simp only [zO, List.mem_map] at he
      obtain ⟨e', he', rfl⟩ := he
      simp only [List.mem_map] at hx
      obtain ⟨x', hx', rfl⟩ := hx
      have := this e' he' x' hx'
      cases x' <;> first | exact this | trivial
    · exact this
  · obtain ⟨v, v1, v2⟩ := htm t x hx
    refine ⟨v, v1, ?_⟩
    show x.rel ρ (zH s.H d) (Xo X ρ (zH s.H d)) w v
    rw [zH_Xo]
    exact zH_tv v2

/-- A slot that is nil reads as an empty pure slice. -/
theorem Weak_zS {s : AS} (k : Nat) (hk : s.tmps[k]? = some (.raw (.slice none 0 0))) : Weak s ⟨s.tmps.set k (.one (.p (.sl []))), s.H⟩ := by
  rintro w0 O X a w ⟨h1, hsz, ρ, hinv, htm⟩
  refine ⟨h1, by simpa using hsz, ρ, hinv, fun t x hx => ?_⟩
  by_cases htk : t = k
  · subst htk
    obtain ⟨v, v1, v2⟩ := htm t _ hk
    have hlt := (List.getElem?_eq_some_iff.1 hk).1
    rw [List.getElem?_set_self hlt] at hx
    injection hx with hx
    subst hx
    have v2 : Rep (Xo X ρ s.H) w (.raw (.slice none 0 0)) v := v2
    cases v2
    exact ⟨_, v1, Rep.nil none 0⟩
  · rw [List.getElem?_set_ne (fun h => htk h.symm)] at hx
    exact htm t x hx
end Go.Proofs.YtennjcjjegbhgaaGreat

/-
  quadformref03.Zero over the abstract machine; matrices in own memory.
-/
namespace Go.Proofs.YtennjcjjegbhgaaGreat
open Go.RowKit

/-- The spine of an own matrix: the row k lies in row k + 1 of the family. -/
def spn (d : Nat) (l : List Nat) : List (List AV) := l.mapIdx fun k c => [.sl d (k + 1) 0 c]
def rwO (r : List Int) : OObj := ⟨51, 2, lc fZ r⟩
def mxO (d : Nat) (R : List (List Int)) : List OObj := ⟨120, 1, spn d (R.map List.length)⟩ :: R.map rwO

/-- Zero's matrix when i of n rows are made. -/
def zst (d n c i : Nat) : List OObj := ⟨120, 1, spn d (List.replicate i c) ++ List.replicate (n - i) [.p (.sl [])]⟩ :: List.replicate i (rwO (List.replicate c 0))

theorem spn_len (d : Nat) (l : List Nat) : (spn d l).length = l.length := by simp [spn]
theorem spn_snoc (d : Nat) (l : List Nat) (c : Nat) : spn d (l ++ [c]) = spn d l ++ [[.sl d (l.length + 1) 0 c]] := by simp [spn, List.mapIdx_append]
theorem spn_z (d : Nat) (l : List Nat) : (spn d l).map (List.map zAV) = spn d l := by
  apply List.ext_getElem?
  intro k
  simp only [spn, List.getElem?_map, List.getElem?_mapIdx]
  cases l[k]? <;> rfl
theorem rw_z (r : List Int) : (lc fZ r).map (List.map zAV) = lc fZ r := by simp [lc, fZ, zAV, zPV]
theorem zst_start (d n c : Nat) : ([⟨120, 1, List.replicate n [.raw (.slice none 0 0)]⟩] : List OObj).map zO = zst d n c 0 := by
  simp [zst, zO, spn, zAV, zPV]
theorem zst_done (d n c : Nat) : zst d n c n = mxO d (List.replicate n (List.replicate c 0)) := by
  simp [zst, mxO]
theorem zst_get {d n c i : Nat} (hi : i < n) : (spn d (List.replicate i c) ++ List.replicate (n - i) [AV.p (PV.sl [])])[i]? = some [.p (.sl [])] := by
  rw [List.getElem?_append_right (by simp [spn_len]), spn_len, List.length_replicate, Nat.sub_self, List.getElem?_replicate, if_pos (by omega)]
theorem zst_step {d n c i : Nat} (hi : i < n) :
    ((⟨120, 1, (spn d (List.replicate i c) ++ List.replicate (n - i) [AV.p (PV.sl [])]).set i [.sl d (i + 1) 0 c]⟩ :: List.replicate i (rwO (List.replicate c 0)) ++ [⟨51, 2, List.replicate c [.raw (.bool false), .raw (.slice none 0 0)]⟩] : List OObj)).map zO = zst d n c (i + 1) := by
  have e1 : (spn d (List.replicate i c) ++ List.replicate (n - i) [AV.p (PV.sl [])]).set i [.sl d (i + 1) 0 c] = spn d (List.replicate (i + 1) c) ++ List.replicate (n - (i + 1)) [AV.p (PV.sl [])] := by
    rw [List.set_append_right _ _ (by simp [spn_len]), spn_len, List.length_replicate, Nat.sub_self, List.replicate_succ' (n := i), spn_snoc, List.length_replicate, List.append_assoc]
    congr 1
    rw [show n - i = n - (i + 1) + 1 by omega, List.replicate_succ]
    rfl
  rw [e1]
  simp only [List.cons_append, List.map_cons, List.map_append, List.map_replicate, zst]
  congr 1
  · simp [zO, spn_z, zAV, zPV]
  · rw [List.replicate_succ']
    congr 1
    · congr 1
      simp [zO, rwO, rw_z]
    · simp [zO, rwO, lc, fZ, zAV, zPV, limbs_zero, ls]

theorem spn_ren (d e : Nat) (l : List Nat) : (spn d l).map (List.map (renAV e)) = spn e l := by
  apply List.ext_getElem?
  intro k
  simp only [spn, List.getElem?_map, List.getElem?_mapIdx]
  cases l[k]? <;> rfl
theorem rwO_ren (e : Nat) (r : List Int) : renO e (rwO r) = rwO r := by simp [renO, rwO, lc_ren]
theorem mxO_ren (d e : Nat) (R : List (List Int)) : (mxO d R).map (renO e) = mxO e R := by
  simp only [mxO, List.map_cons, List.map_map]
  congr 1
  · simp [renO, spn_ren]
  · exact List.map_congr_left fun r _ => rwO_ren e r

structure ZrG (n : Nat) where
  i : Nat
  hi : i ≤ n


set_option maxRecDepth 100000 in
set_option maxHeartbeats 4000000 in
theorem Zero_C (n c : Nat) (hn : n ≤ 16) (hc : c ≤ 16) : CallC Tryz.prog 109 [.raw (.int .i64 (n : Int)), .raw (.int .i64 (c : Int))] ⟨mxO 0 (List.replicate n (List.replicate c 0)), .one (.sl 0 0 0 n)⟩ := by
  refine callC_of Tryz.func109 rfl (by kernel_rfl) ?_; rw [Tryz.ntmps109]
  ((first | refine WpA_sreg [] [] (by simp) fun K hK => ?_ | refine WpA_seq (WpA_sreg [] [] (by simp) fun K hK => ?_) | refine WpA_seq (WpA_seq (WpA_sreg [] [] (by simp) fun K hK => ?_))); simp (disch := omega) only [prepL, prep1, List.length_cons, List.length_nil, Nat.zero_add, Nat.reduceAdd, List.replicate, List.cons_append, List.nil_append, runS_cons, opS_assign, AS.ev, ofConst, Value.oneCell', if_true, Option.map_some, AS.put, List.set_cons_succ, List.set_cons_zero, runS_nil]; (with_reducible refine hK _ ?_); clear hK K)
  ((first | refine WpA_sreg [] [] (by simp) fun K hK => ?_ | refine WpA_seq (WpA_sreg [] [] (by simp) fun K hK => ?_) | refine WpA_seq (WpA_seq (WpA_sreg [] [] (by simp) fun K hK => ?_))); simp (disch := omega) only [prepL, prep1, Nat.zero_add, Nat.reduceAdd, runS_cons, opS_move, AS.ev, List.getElem?_cons_zero, Option.map_some, AS.put, List.set_cons_succ, List.set_cons_zero, opS_makeSlice, newS, effA, List.getElem?_cons_succ, ty_slice62, ty_zero120, ty_sz120, ty_by120, Int.natCast_nonneg, List.length_cons, List.length_nil, Value.oneCell', List.all_cons, List.all_nil, Bool.and_self, and_true, true_and, Int.toNat_natCast, List.map_cons, List.map_nil, ifT, opS_assign, runS_nil]; (with_reducible refine hK _ ?_); clear hK K)
  ((first | refine WpA_sreg [] [] (by simp) fun K hK => ?_ | refine WpA_seq (WpA_sreg [] [] (by simp) fun K hK => ?_) | refine WpA_seq (WpA_seq (WpA_sreg [] [] (by simp) fun K hK => ?_))); simp (disch := omega) only [prepL, prep1, Nat.zero_add, Nat.reduceAdd, runS_cons, opS_move, AS.ev, List.getElem?_cons_succ, List.getElem?_cons_zero, Option.map_some, AS.put, List.set_cons_succ, List.set_cons_zero, opS_len, effR, ty_slice62, ofConst, Value.oneCell', if_true, runS_nil]; (with_reducible refine hK _ ?_); clear hK K)
  refine WpA_forb (G := ZrG n) (fun g => ⟨[.raw (.int .i64 (n : Int)), .raw (.int .i64 (c : Int)), .one .junk, .one .junk, .raw (.slice none 0 0), .one (.sl 8 0 0 n), .one .junk, .one .junk, .one .junk, .one .junk, .raw (.int .i64 (n : Int)), .raw (.int .i64 (g.i : Int)), .one .junk, .one .junk, .one .junk, .one .junk, .one .junk, .one .junk, .one .junk, .one .junk, .one .junk], Hm [(8, zst 8 n c g.i)]⟩) (fun g => n - g.i) ⟨0, by omega⟩ ?_ ?_
  · refine (Weak_zH 8).trans (Weak_sub ⟨zst_start 8 n c, trivial⟩ ?_)
    simp [wkL, okTV, okAV]
  · rintro ⟨i, hi⟩
    simp only
    by_cases hm : i < n
    · ((first | refine WpA_sreg [] [] (by simp) fun K hK => ?_ | refine WpA_seq (WpA_sreg [] [] (by simp) fun K hK => ?_) | refine WpA_seq (WpA_seq (WpA_sreg [] [] (by simp) fun K hK => ?_))); simp (disch := omega) only [prepL, prep1, Hm, runS_cons, opS_bin, effM, AS.ev, List.getElem?_cons_succ, List.getElem?_cons_zero, evBin, decT, if_true, Option.map_some, AS.put, List.set_cons_succ, List.set_cons_zero, runS_nil]; (with_reducible refine hK _ ?_); clear hK K)
      refine WpA_seq (WpA_cond rfl (fun _ => WpA_skip ?_) (fun h => by simp at h <;> omega))
      refine WpA_seq (WpA_block ?_)
      ((first | refine WpA_sreg [] [] (by simp) fun K hK => ?_ | refine WpA_seq (WpA_sreg [] [] (by simp) fun K hK => ?_) | refine WpA_seq (WpA_seq (WpA_sreg [] [] (by simp) fun K hK => ?_))); simp (disch := omega) only [prepL, prep1, Nat.zero_add, runS_cons, opS_move, AS.ev, List.getElem?_cons_succ, List.getElem?_cons_zero, Option.map_some, AS.put, List.set_cons_succ, List.set_cons_zero, opS_assign, runS_nil]; (with_reducible refine hK _ ?_); clear hK K)
      simp only [zst]
      have hg := zst_get (d := 8) (c := c) hm
      ((refine WpA_lreg [] [] (by simp) fun K hK => ?_); simp (disch := omega) only [prepL, prep1, Nat.zero_add, Nat.reduceAdd, runS_cons, opS_move, AS.ev, List.getElem?_cons_succ, List.getElem?_cons_zero, Option.map_some, AS.put, List.set_cons_succ, List.set_cons_zero, opS_makeSlice, newS, effA, ty_slice120, ty_zero51, ty_sz51, ty_by51, Int.natCast_nonneg, List.length_cons, List.length_nil, Value.oneCell', List.all_cons, List.all_nil, Bool.and_self, and_true, true_and, Int.toNat_natCast, List.map_cons, List.map_nil, ifT, Nat.reduceEqDiff, if_false, opS_indexAddr, effR, natOf_pos, ty_slice62, updH, if_true, ty_sz120, opS_store, wrS, effD, hg, putCells, List.take_zero, List.nil_append, List.drop_succ_cons, List.drop_zero, List.append_nil, ifF, List.length_replicate, List.all_replicate, isPure, ite_self, List.cons_append, killTV, killAV, Nat.reduceBEq, Bool.false_eq_true, beq_self_eq_true, runS_nil]; (with_reducible refine hK _ ?_); clear hK K)
      show WpA _ _ _ _
      ((refine WpA_lreg [] [] (by simp) fun K hK => ?_); simp (disch := omega) only [prepL, prep1, Nat.zero_add, runS_cons, opS_bin, effM, AS.ev, List.getElem?_cons_succ, List.getElem?_cons_zero, ofConst, Value.oneCell', if_true, evBin, wrapI, Option.map_some, AS.put, List.set_cons_succ, List.set_cons_zero, opS_move, runS_nil]; (with_reducible refine hK _ ?_); clear hK K)
      refine ⟨⟨i + 1, by omega⟩, by simp only; omega, (Weak_zH 8).trans (Weak_sub ⟨zst_step hm, trivial⟩ ?_)⟩
      simp [wkL, okTV, okAV]
    · have hin : i = n := by omega
      subst hin
      ((first | refine WpA_sreg [] [] (by simp) fun K hK => ?_ | refine WpA_seq (WpA_sreg [] [] (by simp) fun K hK => ?_) | refine WpA_seq (WpA_seq (WpA_sreg [] [] (by simp) fun K hK => ?_))); simp (disch := omega) only [prepL, prep1, Hm, runS_cons, opS_bin, effM, AS.ev, List.getElem?_cons_succ, List.getElem?_cons_zero, evBin, decF, if_true, Option.map_some, AS.put, List.set_cons_succ, List.set_cons_zero, runS_nil]; (with_reducible refine hK _ ?_); clear hK K)
      refine WpA_seq (WpA_cond rfl (fun h => by simp at h <;> omega) (fun _ => WpA_exit ?_))
      show WpA _ _ _ _
      rw [zst_done]
      ((first | refine WpA_sreg [] [] (by simp) fun K hK => ?_ | refine WpA_seq (WpA_sreg [] [] (by simp) fun K hK => ?_) | refine WpA_seq (WpA_seq (WpA_sreg [] [] (by simp) fun K hK => ?_))); simp (disch := omega) only [prepL, prep1, Nat.zero_add, runS_cons, opS_move, AS.ev, List.getElem?_cons_succ, List.getElem?_cons_zero, Option.map_some, AS.put, List.set_cons_succ, List.set_cons_zero, opS_assign, runS_nil]; (with_reducible refine hK _ ?_); clear hK K)
      refine WpA_ret ⟨.inr rfl, _, Weak.refl _, ?_⟩
      refine ⟨.one (.sl 8 0 0 i), 8, ?_, rfl, ?_, rfl⟩
      · simp (disch := omega) only [resA, Tryz.results109, resOne, List.getElem?_cons_succ, List.getElem?_cons_zero]
      · exact (mxO_ren 8 0 _).symm
end Go.Proofs.YtennjcjjegbhgaaGreat

/-
  The abstract machine: two rows of a family change their numbers.
-/
namespace Go.Proofs.YtennjcjjegbhgaaGreat
open Go.RowKit

def sw (p q r : Nat) : Nat := if r = p then q else if r = q then p else r
theorem sw_sw (p q r : Nat) : sw p q (sw p q r) = r := by
  unfold sw
  by_cases h1 : r = p
  · subst h1; by_cases h2 : q = r <;> simp [h2]
  · by_cases h2 : r = q
    · subst h2; simp [h1]
    · simp [h1, h2]
def ixS (a p q b r : Nat) : Nat := if b = a then sw p q r else r
theorem ixS_ixS (a p q b r : Nat) : ixS a p q b (ixS a p q b r) = r := by
  unfold ixS
  by_cases h : b = a <;> simp [h, sw_sw]
def swAV (a p q : Nat) : AV → AV
  | .sl b r off len => .sl b (ixS a p q b r) off len
  | .ptr b r i j => .ptr b (ixS a p q b r) i j
  | x => x
def swTV (a p q : Nat) : TV → TV
  | .one x => .one (swAV a p q x)
  | .agg cs => .agg (cs.map (swAV a p q))
  | .tup ts => .tup (ts.map fun t => (t.1, t.2.map (swAV a p q)))
def swO (a p q : Nat) (o : OObj) : OObj := { o with elems := o.elems.map (List.map (swAV a p q)) }

theorem Weak_sw {s : AS} (a p q : Nat) (F : List OObj) (hF : ∀ r : Nat, F[r]? = ((s.H a)[sw p q r]?).map (swO a p q)) : Weak s ⟨s.tmps.map (swTV a p q), updH s.H a F⟩ := by
  rintro w0 O X act w ⟨h1, hsz, ρ, hinv, htm⟩
  have hof : ∀ (b r : Nat) o, (s.H b)[r]? = some o → ∃ o' : OObj, (updH s.H a F b)[ixS a p q b r]? = some o' ∧ o'.es = o.es ∧ o'.elems.length = o.elems.length := fun b r o ho => by
    by_cases hb : b = a
    · subst hb
      refine ⟨swO b p q o, ?_, rfl, by simp [swO]⟩
      rw [updH_eq, ixS, if_pos rfl, hF, sw_sw, ho]; rfl
    · exact ⟨o, by rw [updH_ne hb, ixS, if_neg hb]; exact ho, rfl, rfl⟩
  have hget : ∀ (b r : Nat) o', (updH s.H a F b)[r]? = some o' → ∃ o : OObj, (s.H b)[ixS a p q b r]? = some o ∧ ((b = a ∧ o' = swO a p q o) ∨ (b ≠ a ∧ o' = o)) := fun b r o' ho => by
    by_cases hb : b = a
    · subst hb
      rw [updH_eq, hF] at ho
      obtain ⟨o, g1, g2⟩ := Option.map_eq_some_iff.1 ho
      exact ⟨o, by rw [ixS, if_pos rfl]; exact g1, .inl ⟨rfl, g2.symm⟩⟩
    · rw [updH_ne hb] at ho
      exact ⟨o', by rw [ixS, if_neg hb]; exact ho, .inr ⟨hb, rfl⟩⟩
  let ρ' : Rho := fun b r => ρ b (ixS a p q b r)
  have hρ : ∀ b r, ρ' b (ixS a p q b r) = ρ b r := fun b r => by show ρ b _ = _; rw [ixS_ixS]
  have hXo : Xo X ρ' (updH s.H a F) = Xo X ρ s.H := by
    funext b
    apply propext
    constructor
    · rintro (h | ⟨x, r, o, c, g1, g2⟩)
      · exact .inl h
      · obtain ⟨o', g3, _⟩ := hget x r o g1
        exact .inr ⟨x, _, o', c, g3, g2⟩
    · rintro (h | ⟨x, r, o, c, g1, g2⟩)
      · exact .inl h
      · obtain ⟨o', g3, _⟩ := hof x r o g1
        exact .inr ⟨x, _, o', c, g3, by rw [hρ]; exact g2⟩
  have hav : ∀ (Y : Nat → Prop) x v, AV.rel ρ s.H Y w x v → AV.rel ρ' (updH s.H a F) Y w (swAV a p q x) v := fun Y x v h => by
    cases x with
    | p x => exact h
    | junk => trivial
    | sl b r off len =>
      obtain ⟨o, g1, g2, g3⟩ := h
      obtain ⟨o', k1, k2, k3⟩ := hof b r o g1
      exact ⟨o', k1, by omega, by rw [hρ, k2]; exact g3⟩
    | ptr b r i j =>
      obtain ⟨o, b', c, g1, g2, g3, g4⟩ := h
      obtain ⟨o', k1, k2, k3⟩ := hof b r o g1
      exact ⟨o', b', c, k1, by rw [hρ]; exact g2, by omega, by rw [k2]; exact g4⟩
  have hagg : ∀ (Y : Nat → Prop) cs v, aggRel ρ s.H Y w cs v → aggRel ρ' (updH s.H a F) Y w (cs.map (swAV a p q)) v := fun Y cs v ⟨vs, g1, g2, g3⟩ => by
    refine ⟨vs, g1, by simpa using g2, fun j x hx => ?_⟩
    rw [List.getElem?_map] at hx
    obtain ⟨y, hy, rfl⟩ := Option.map_eq_some_iff.1 hx
    obtain ⟨u, u1, u2, u3⟩ := g3 j y hy
    exact ⟨u, u1, u2, hav Y y u u3⟩
  refine ⟨h1, by simpa using hsz, ρ', ⟨hinv.keep, fun b r o' ho => ?_, fun b r b' r' o o' x c c' ho ho' hb hb' => ?_, fun b r o x c ho hb => ?_, hinv.bar, fun b r o' ho => ?_⟩, fun t x hx => ?_⟩
  · obtain ⟨o, g1, g2⟩ := hget b r o' ho
    have hob := hinv.objs b _ o g1
    have hself := hinv.self b _ o g1
    show objRel ρ' (updH s.H a F) (Xo X ρ' (updH s.H a F)) w b r o'
    rw [hXo]
    obtain ⟨q1, q2, q3⟩ := hob
    rcases g2 with ⟨rfl, rfl⟩ | ⟨hb, rfl⟩
    · refine ⟨fun e he => ?_, q2, ?_⟩
      · simp only [swO, List.mem_map] at he
        obtain ⟨e', he', rfl⟩ := he
        simp only [List.length_map, swO]
        exact q1 e' he'
      · show match ρ b (ixS b p q b r) with | none => _ | some (b, c) => _
        cases hr : ρ b (ixS b p q b r) with
        | none => rw [hr] at q3; simp only at q3 ⊢; simp [swO, q3]
        | some bc =>
          obtain ⟨b2, c⟩ := bc
          rw [hr] at q3
          obtain ⟨cells, p1, p2, p3, p4, p5⟩ := q3
          refine ⟨cells, p1, p2, by simpa [swO] using p3, p4, fun i e j x hi hj => ?_⟩
          simp only [swO, List.getElem?_map] at hi
          obtain ⟨e', he', rfl⟩ := Option.map_eq_some_iff.1 hi
          simp only [List.getElem?_map] at hj
          obtain ⟨x', hx', rfl⟩ := Option.map_eq_some_iff.1 hj
          obtain ⟨v, v1, v2, v3⟩ := p5 i e' j x' he' hx'
          exact ⟨v, v1, v2, hav _ _ _ v3⟩
    · refine ⟨q1, q2, ?_⟩
      show match ρ b (ixS a p q b r) with | none => _ | some (b, c) => _
      cases hr : ρ b (ixS a p q b r) with
      | none => rw [hr] at q3; exact q3
      | some bc =>
        obtain ⟨b2, c⟩ := bc
        rw [hr] at q3
        obtain ⟨cells, p1, p2, p3, p4, p5⟩ := q3
        refine ⟨cells, p1, p2, p3, p4, fun i e j x hi hj => ?_⟩
        obtain ⟨v, v1, v2, v3⟩ := p5 i e j x hi hj
        have hs := hself e (List.mem_of_getElem? hi) x (List.mem_of_getElem? hj)
        have hx : swAV a p q x = x := by
          cases x with
          | sl z _ _ _ => have hs : z = b := hs; subst hs; simp [swAV, ixS, hb]
          | ptr z _ _ _ => have hs : z = b := hs; subst hs; simp [swAV, ixS, hb]
          | p z => rfl
          | junk => rfl
        have := hav _ _ _ v3
        rw [hx] at this
        exact ⟨v, v1, v2, this⟩
  · obtain ⟨o1, g1, _⟩ := hget b r o ho
    obtain ⟨o2, g2, _⟩ := hget b' r' o' ho'
    obtain ⟨e1, e2⟩ := hinv.inj b _ b' _ o1 o2 x c c' g1 g2 hb hb'
    subst e1
    refine ⟨rfl, ?_⟩
    rw [← ixS_ixS a p q b r, e2, ixS_ixS]
  · obtain ⟨o1, g1, _⟩ := hget b r o ho
    exact hinv.old b _ o1 x c g1 hb
  · obtain ⟨o, g1, g2⟩ := hget b r o' ho
    have hs := hinv.self b _ o g1
    rcases g2 with ⟨rfl, rfl⟩ | ⟨hb, rfl⟩
    · intro e he x hx
      simp only [swO, List.mem_map] at he
      obtain ⟨e', he', rfl⟩ := he
      simp only [List.mem_map] at hx
      obtain ⟨x', hx', rfl⟩ := hx
      have := hs e' he' x' hx'
      cases x' <;> first | exact this | trivial
    · exact hs
  · simp only [List.getElem?_map] at hx
    obtain ⟨y, hy, rfl⟩ := Option.map_eq_some_iff.1 hx
    obtain ⟨v, v1, v2⟩ := htm t y hy
    refine ⟨v, v1, ?_⟩
    show TV.rel ρ' (updH s.H a F) (Xo X ρ' (updH s.H a F)) w (swTV a p q y) v
    rw [hXo]
    cases y with
    | one x => exact hav _ _ _ v2
    | agg cs => exact hagg _ _ _ v2
    | tup ts =>
      obtain ⟨vs, g1, g2, g3⟩ := v2
      refine ⟨vs, g1, by simpa using g2, fun j b cs hj => ?_⟩
      rw [List.getElem?_map] at hj
      obtain ⟨z, hz, hzz⟩ := Option.map_eq_some_iff.1 hj
      obtain ⟨b', cs'⟩ := z
      simp at hzz
      obtain ⟨rfl, rfl⟩ := hzz
      obtain ⟨u, u1, u2⟩ := g3 j b' cs' hz
      refine ⟨u, u1, ?_⟩
      rcases u2 with ⟨u2, u3⟩ | ⟨u2, q', rfl, u4⟩
      · exact .inl ⟨u2, hagg _ _ _ u3⟩
      · exact .inr ⟨u2, _, rfl, hav _ _ _ u4⟩
end Go.Proofs.YtennjcjjegbhgaaGreat

/-
  Plain: determinants by expansion, and that the elimination without fractions is exact.
-/
namespace Go.Proofs.YtennjcjjegbhgaaGreat

/-- Expansion along one row. -/
def lap (r : Nat → Int) : (List Nat → Int) → List Nat → Int
  | _, [] => 0
  | f, c :: cs => r c * f cs - lap r (fun l => f (c :: l)) cs
theorem lap_row (a b : Int) (r s : Nat → Int) : ∀ (cs : List Nat) (f : List Nat → Int), lap (fun c => a * r c + b * s c) f cs = a * lap r f cs + b * lap s f cs
  | [], f => by simp [lap]
  | c :: cs, f => by
    simp only [lap, lap_row a b r s cs]
    grind
theorem lap_fn (r : Nat → Int) (a b : Int) : ∀ (cs : List Nat) (f g : List Nat → Int), lap r (fun l => a * f l + b * g l) cs = a * lap r f cs + b * lap r g cs
  | [], f, g => by simp [lap]
  | c :: cs, f, g => by
    simp only [lap, lap_fn r a b cs]
    grind
theorem lap_zero (r : Nat → Int) : ∀ (cs : List Nat), lap r (fun _ => 0) cs = 0
  | [] => rfl
  | c :: cs => by simp [lap, lap_zero r cs]
theorem lap_anti (r s : Nat → Int) : ∀ (cs : List Nat) (f : List Nat → Int), lap r (lap s f) cs = - lap s (lap r f) cs
  | [], f => by simp [lap]
  | c :: cs, f => by
    have h1 : (fun l => lap s f (c :: l)) = fun l => s c * f l + (-1) * lap s (fun m => f (c :: m)) l := by funext l; simp only [lap]; grind
    have h2 : (fun l => lap r f (c :: l)) = fun l => r c * f l + (-1) * lap r (fun m => f (c :: m)) l := by funext l; simp only [lap]; grind
    have ih := lap_anti r s cs (fun m => f (c :: m))
    rw [lap, lap, h1, h2, lap_fn, lap_fn]
    have e1 : lap r (fun l => lap s (fun m => f (c :: m)) l) cs = lap r (lap s (fun m => f (c :: m))) cs := rfl
    have e2 : lap s (fun l => lap r (fun m => f (c :: m)) l) cs = lap s (lap r (fun m => f (c :: m))) cs := rfl
    rw [e1, e2, ih]
    grind
theorem lap_sq (r : Nat → Int) (cs : List Nat) (f : List Nat → Int) : lap r (lap r f) cs = 0 := by
  have := lap_anti r r cs f
  omega
theorem lap_van {r : Nat → Int} : ∀ (cs : List Nat) (f : List Nat → Int), (∀ c ∈ cs, r c = 0) → lap r f cs = 0
  | [], _, _ => rfl
  | c :: cs, f, h => by
    rw [lap, lap_van cs _ (fun c hc => h c (List.mem_cons_of_mem _ hc)), h c List.mem_cons_self]; simp

/-- The determinant of the rows 0 .. k-1 (the last one first) as a function of the columns. -/
def om (R : Nat → Nat → Int) : Nat → List Nat → Int
  | 0 => fun _ => 1
  | k + 1 => lap (R k) (om R k)
def csk : Nat → List Nat
  | 0 => []
  | k + 1 => k :: csk k
theorem csk_lt {k c : Nat} (h : c ∈ csk k) : c < k := by
  induction k with
  | zero => simp [csk] at h
  | succ k ih =>
    rcases List.mem_cons.1 h with rfl | h
    · omega
    · have := ih h; omega
/-- An entry of stage k. -/
def bk (R : Nat → Nat → Int) (k i j : Nat) : Int := lap (R i) (om R k) (j :: csk k)
/-- A leading principal minor. -/
def dk (R : Nat → Nat → Int) (k : Nat) : Int := om R k (csk k)
theorem dk_zero (R : Nat → Nat → Int) : dk R 0 = 1 := rfl
theorem dk_succ (R : Nat → Nat → Int) (k : Nat) : dk R (k + 1) = bk R k k k := rfl
theorem bk_zero (R : Nat → Nat → Int) (i j : Nat) : bk R 0 i j = R i j := by simp [bk, lap, om, csk]
theorem om_span (R : Nat → Nat → Int) {t k : Nat} (h : t < k) (cs : List Nat) : lap (R t) (om R k) cs = 0 := by
  induction k generalizing cs with
  | zero => omega
  | succ k ih =>
    by_cases e : t = k
    · subst e; exact lap_sq _ _ _
    · rw [om, lap_anti, show lap (R t) (om R k) = fun _ => 0 from funext (ih (by omega)), lap_zero]; rfl
theorem bk_span (R : Nat → Nat → Int) {t k : Nat} (h : t < k) (j : Nat) : bk R k t j = 0 := om_span R h _

theorem elim (R : Nat → Nat → Int) : ∀ k, (∀ t, t < k → dk R (t + 1) ≠ 0) → ∃ N : Int, N ≠ 0 ∧ ∀ v : Nat → Int, ∃ v' : Nat → Int, (∀ c, c < k → v' c = 0) ∧
    ∀ m, k ≤ m → ∀ cs, lap v' (om R m) cs = N * lap v (om R m) cs
  | 0, _ => ⟨1, by omega, fun v => ⟨v, fun c h => by omega, fun m _ cs => by omega⟩⟩
  | k + 1, hd => by
    obtain ⟨N, hN, hv⟩ := elim R k (fun t ht => hd t (by omega))
    obtain ⟨r, hr0, hr⟩ := hv (R k)
    have hrk : r k * dk R k = N * dk R (k + 1) := by
      have := hr k (Nat.le_refl _) (k :: csk k)
      rw [lap, lap_van (csk k) _ (fun c hc => hr0 c (csk_lt hc))] at this
      rw [dk_succ, bk, ← this, dk]; omega
    have hne : r k ≠ 0 := by
      intro e
      rw [e, Int.zero_mul] at hrk
      rcases Int.mul_eq_zero.1 hrk.symm with h | h
      · exact hN h
      · exact hd k (by omega) h
    refine ⟨r k * N, Int.mul_ne_zero hne hN, fun v => ?_⟩
    obtain ⟨v', hv0, hv'⟩ := hv v
    refine ⟨fun c => r k * v' c + (- v' k) * r c, fun c hc => ?_, fun m hm cs => ?_⟩
    · by_cases e : c = k
      · subst e; grind
      · show r k * v' c + -v' k * r c = 0; rw [hv0 c (by omega), hr0 c (by omega)]; simp
    · rw [lap_row, hv' m (by omega), hr m (by omega), om_span R (show k < m by omega)]
      grind

theorem sylv (R : Nat → Nat → Int) (k : Nat) (hd : ∀ t, t < k → dk R (t + 1) ≠ 0) (i j : Nat) :
    dk R k * bk R (k + 1) i j = dk R (k + 1) * bk R k i j - bk R k i k * bk R k k j := by
  obtain ⟨N, hN, hv⟩ := elim R k hd
  obtain ⟨v, hv0, hv1⟩ := hv (R i)
  obtain ⟨u, hu0, hu1⟩ := hv (R k)
  have hone : ∀ {x : Nat → Int} {t : Nat}, (∀ c, c < k → x c = 0) → (∀ m, k ≤ m → ∀ cs, lap x (om R m) cs = N * lap (R t) (om R m) cs) → ∀ j, N * bk R k t j = x j * dk R k := by
    intro x t h0 h1 j
    rw [bk, ← h1 k (Nat.le_refl _), lap, lap_van (csk k) _ (fun c hc => h0 c (csk_lt hc)), dk]; omega
  have hA := hone hv0 hv1
  have hB := hone hu0 hu1
  have h2 : lap v (lap u (om R k)) (j :: k :: csk k) = N * N * bk R (k + 1) i j := by
    have e1 : lap u (om R k) = fun l => N * lap (R k) (om R k) l + 0 * 0 := by funext l; rw [hu1 k (Nat.le_refl _)]; omega
    have e2 : lap v (lap u (om R k)) (j :: k :: csk k) = N * lap v (om R (k + 1)) (j :: k :: csk k) := by
      rw [e1]
      have := lap_fn v N 0 (j :: k :: csk k) (lap (R k) (om R k)) (fun _ => 0)
      simp only [om]
      rw [this]; omega
    rw [e2, hv1 (k + 1) (by omega), bk, csk, Int.mul_assoc]
  have h3 : lap v (lap u (om R k)) (j :: k :: csk k) = (v j * u k - v k * u j) * dk R k := by
    have van : ∀ {x : Nat → Int} (f : List Nat → Int), (∀ c, c < k → x c = 0) → lap x f (csk k) = 0 := fun f h => lap_van (csk k) f (fun c hc => h c (csk_lt hc))
    simp only [lap, van _ hv0, van _ hu0, dk]
    grind
  have h4 := h2.symm.trans h3
  have hNN : N * N ≠ 0 := Int.mul_ne_zero hN hN
  apply Int.eq_of_mul_eq_mul_left hNN
  have a1 := hA j
  have a2 := hA k
  have b1 := hB j
  have b2 := hB k
  rw [dk_succ]
  grind

end Go.Proofs.YtennjcjjegbhgaaGreat

/-
  The walks of vector.inRange, vector.fits, lll.isSmall, lll.isShortened.
-/
namespace Go.Proofs.YtennjcjjegbhgaaGreat
open Go.RowKit

def InB (x : List Int) : Bool := x.all fun c => decide (-1099511627776 ≤ c) && decide (c ≤ 1099511627776)
theorem InB_false {x : List Int} {k : Nat} {c : Int} (h : x[k]? = some c) (hc : c < -1099511627776 ∨ 1099511627776 < c) : InB x = false := by
  unfold InB; rw [List.all_eq_false]; exact ⟨c, List.mem_of_getElem? h, by simp; omega⟩
theorem InB_true {x : List Int} {k : Nat} (hk : x.length ≤ k) (h : ∀ j c, j < k → x[j]? = some c → -1099511627776 ≤ c ∧ c ≤ 1099511627776) : InB x = true := by
  unfold InB; rw [List.all_eq_true]; intro c hc
  obtain ⟨j, hj, rfl⟩ := List.getElem_of_mem hc
  have := h j _ (by omega) (List.getElem?_eq_getElem hj)
  simp; omega
theorem upto_succ {α : Type} {x : List α} {k : Nat} {P : α → Prop} {c : α} (h : ∀ j c, j < k → x[j]? = some c → P c) (hk : x[k]? = some c) (hc : P c) : ∀ j c, j < k + 1 → x[j]? = some c → P c := by
  intro j d hj hd
  by_cases e : j = k
  · subst e; rw [hk] at hd; cases hd; exact hc
  · exact h j d (by omega) hd

set_option maxHeartbeats 400000 in
theorem inRange_any (A : Option Addr) (c : Nat) (x : List Int) (w : World) (hx : RdI .i64 w A x) (lx : x.length ≤ 9223372036854775807) :
    Calls Tryz.prog 83 #[.slice A x.length c] w fun e w' => e = .returned (.bool (InB x)) ∧ w = w' := by
  have HX := Lib.hid hx
  clear hx
  go_enter Tryz.func83, Tryz.ntmps83
  go_wp2_with fail
  go_loop [7, 4] (fun i _ => ∃ k : Nat, k ≤ x.length ∧ i = .int .i64 k ∧ Hid (∀ j c, j < k → x[j]? = some c → -1099511627776 ≤ c ∧ c ≤ 1099511627776)) (fun i _ => x.length - (intOf i).toNat)
  case atStart => exact ⟨0, Nat.zero_le _, rfl, Lib.hid (fun j c h => by omega)⟩
  case round =>
    obtain ⟨k, hk, rfl, HR⟩ := hrel
    by_cases hlt : k < x.length
    · obtain ⟨a, ha⟩ := getElem?_of_lt hlt
      obtain ⟨b, off, rfl, hc⟩ := HX.out.at_ ha
      have HA := Lib.hid ha
      clear ha
      by_cases h1 : a < -1099511627776
      · go_wp2_with fail
        go_ret
        exact ⟨ret_bool (InB_false HA.out (.inl h1)).symm, rfl⟩
      · by_cases h2 : 1099511627776 < a
        · go_wp2_with fail
          go_ret
          exact ⟨ret_bool (InB_false HA.out (.inr h2)).symm, rfl⟩
        · go_wp2_with fail
          go_round
          case rel => exact ⟨k + 1, by omega, by go_num, Lib.hid (upto_succ (P := fun c => -1099511627776 ≤ c ∧ c ≤ 1099511627776) HR.out HA.out (by omega))⟩
          case measure => simp [intOf]; omega
    · go_wp2_with fail
      go_ret
      exact ⟨ret_bool (InB_true (by omega) HR.out).symm, rfl⟩

def FitB (n : Int) (x : List Int) : Bool := decide ((x.length : Int) = n) && InB x
theorem fits_any (n : Int) (A : Option Addr) (c : Nat) (x : List Int) (w : World) (hx : RdI .i64 w A x) (lx : x.length ≤ 9223372036854775807) :
    Calls Tryz.prog 43 #[.int .i64 n, .slice A x.length c] w fun e w' => e = .returned (.bool (FitB n x)) ∧ w = w' := by
  by_cases h : (x.length : Int) = n
  · have hB : ((x.length : Int) == n) = true := by simp [h]
    go_enter Tryz.func43, Tryz.ntmps43
    have HH := Lib.hid h
    clear h
    go_wp2_with (go_at_call 83; refine (inRange_any A c x _ hx lx).mono ?_; rintro e w' ⟨rfl, rfl⟩)
    go_ret
    exact ⟨ret_bool (by simp [FitB, HH.out]), rfl⟩
  · have hB : ((x.length : Int) == n) = false := by simp [h]
    go_enter Tryz.func43, Tryz.ntmps43
    go_wp2_with fail
    go_ret
    exact ⟨ret_bool (by simp [FitB, h]), rfl⟩

def ent (rows : List (List Int)) (i j : Nat) : Int := (rows.getD i []).getD j 0
theorem ent_of {rows : List (List Int)} {i j : Nat} {r : List Int} {a : Int} (h : rows[i]? = some r) (h' : r[j]? = some a) : ent rows i j = a := by
  simp [ent, List.getD_eq_getElem?_getD, h, h']

def SmallE (rows : List (List Int)) (i j : Nat) : Prop := ent rows i j = ent rows j i ∧ -262144 < ent rows i j ∧ ent rows i j < 262144
def SmallP (rows : List (List Int)) : Prop :=
  1 ≤ rows.length ∧ rows.length ≤ 8 ∧ (∀ i, i < rows.length → (rows.getD i []).length = rows.length) ∧ ∀ i, i < rows.length → ∀ j, j < rows.length → SmallE rows i j
instance (rows : List (List Int)) (i j : Nat) : Decidable (SmallE rows i j) := inferInstanceAs (Decidable (_ ∧ _))
instance (rows : List (List Int)) : Decidable (SmallP rows) := inferInstanceAs (Decidable (_ ∧ _ ∧ _ ∧ _))

theorem ret_dec {p : Prop} [Decidable p] (h : p) : Ending.returned (.bool true) = .returned (.bool (decide p)) := by simp [h]
theorem ret_undec {p : Prop} [Decidable p] (h : ¬ p) : Ending.returned (.bool false) = .returned (.bool (decide p)) := by simp [h]

set_option maxHeartbeats 1000000 in
theorem isSmall_any (A : Option Addr) (c : Nat) (rows : List (List Int)) (w : World) (hx : RdM .i64 w A rows) (lx : rows.length ≤ 9223372036854775807) :
    Calls Tryz.prog 81 #[.slice A rows.length c] w fun e w' => e = .returned (.bool (decide (SmallP rows))) ∧ w = w' := by
  have HX := Lib.hid hx
  clear hx
  go_enter Tryz.func81, Tryz.ntmps81
  by_cases hn1 : rows.length < 1
  · go_wp2_with fail
    go_ret
    exact ⟨ret_undec (fun h => by have := h.1; omega), rfl⟩
  by_cases hn8 : 8 < rows.length
  · go_wp2_with fail
    go_ret
    exact ⟨ret_undec (fun h => by have := h.2.1; omega), rfl⟩
  go_wp2_with fail
  go_loop [20, 5] (fun i _ => ∃ k : Nat, k ≤ rows.length ∧ i = .int .i64 k ∧ Hid (∀ i, i < k → (rows.getD i []).length = rows.length)) (fun i _ => rows.length - (intOf i).toNat)
  case atStart => exact ⟨0, Nat.zero_le _, rfl, Lib.hid (fun j h => by omega)⟩
  case round =>
    obtain ⟨k, hk, rfl, HR⟩ := hrel
    by_cases hlt : k < rows.length
    · obtain ⟨r, ha⟩ := getElem?_of_lt hlt
      obtain ⟨b, off, B, cr, rfl, hc, hcr, hlr, hr⟩ := HX.out.at_ ha
      have HA := Lib.hid ha
      clear ha hr
      by_cases h1 : r.length = rows.length
      · have h1' : ((r.length : Int) != (rows.length : Int)) = false := by simp [h1]
        have H1 := Lib.hid h1
        clear h1
        go_wp2_with fail
        go_round
        case rel => 
          exact ⟨k + 1, by omega, by go_num, Lib.hid (fun i hi => by
            by_cases e : i = k
            · subst e; rw [List.getD_eq_getElem?_getD, HA.out]; exact H1.out
            · exact HR.out i (by omega))⟩
        case measure => simp [intOf]; omega
      · have h1' : ((r.length : Int) != (rows.length : Int)) = true := by simp; omega
        go_wp2_with fail
        go_ret
        exact ⟨ret_undec (fun h => by have := h.2.2.1 k hlt; rw [List.getD_eq_getElem?_getD, HA.out] at this; exact h1 this), rfl⟩
    · have HL : Hid (∀ i, i < rows.length → (rows.getD i []).length = rows.length) := Lib.hid (fun i hi => HR.out i (by omega))
      clear HR
      go_wp2_with fail
      go_loop [31, 6, 7, 8, 9] (fun i _ _ _ _ => ∃ k : Nat, k ≤ rows.length ∧ i = .int .i64 k ∧ Hid (∀ i, i < k → ∀ j, j < rows.length → SmallE rows i j)) (fun i _ _ _ _ => rows.length - (intOf i).toNat)
      case atStart => exact ⟨0, Nat.zero_le _, rfl, Lib.hid (fun j h => by omega)⟩
      case round =>
        obtain ⟨k, hk, rfl, HR⟩ := hrel
        by_cases hlt : k < rows.length
        · obtain ⟨r, ha⟩ := getElem?_of_lt hlt
          obtain ⟨b, off, B, cr, rfl, hc, hcr, hlr, hr⟩ := HX.out.at_ ha
          have hrl : r.length = rows.length := by have := HL.out k hlt; rw [List.getD_eq_getElem?_getD, ha] at this; exact this
          have HA := Lib.hid ha
          have HRR := Lib.hid hr
          have HRL := Lib.hid hrl
          clear ha hr hrl
          go_wp2_with fail
          go_loop [38, 8, 9] (fun i _ _ => ∃ l : Nat, l ≤ rows.length ∧ i = .int .i64 l ∧ Hid (∀ j, j < l → SmallE rows k j)) (fun i _ _ => rows.length - (intOf i).toNat)
          case atStart => exact ⟨0, Nat.zero_le _, rfl, Lib.hid (fun j h => by omega)⟩
          case round =>
            obtain ⟨l, hl, rfl, HQ⟩ := hrel
            by_cases hll : l < rows.length
            · obtain ⟨a, ha⟩ := getElem?_of_lt (l := r) (k := l) (by rw [HRL.out]; exact hll)
              obtain ⟨b2, off2, rfl, hc2⟩ := HRR.out.at_ ha
              have HA2 := Lib.hid ha
              clear ha
              obtain ⟨r3, ha3⟩ := getElem?_of_lt hll
              obtain ⟨b3, off3, B3, cr3, h33, hc3, hcr3, hlr3, hr3⟩ := HX.out.at_ ha3
              cases h33
              have hrl3 : r3.length = rows.length := by have := HL.out l hll; rw [List.getD_eq_getElem?_getD, ha3] at this; exact this
              obtain ⟨a4, ha4⟩ := getElem?_of_lt (l := r3) (k := k) (by rw [hrl3]; exact hlt)
              obtain ⟨b4, off4, rfl, hc4⟩ := hr3.at_ ha4
              have hlr4 : k < r3.length := by omega
              have hlr5 : l < r.length := by rw [HRL.out]; exact hll
              have HA3 := Lib.hid ha3
              have HA4 := Lib.hid ha4
              have E1 := Lib.hid (ent_of HA.out HA2.out)
              have E2 := Lib.hid (ent_of HA3.out HA4.out)
              clear ha3 hr3 hrl3 ha4
              by_cases g1 : a = a4
              · have g1' : (a != a4) = false := by simp [g1]
                have G1 := Lib.hid g1
                clear g1
                by_cases g2 : a ≤ -262144
                · go_wp2_with fail
                  go_ret
                  exact ⟨ret_undec (fun h => by have := h.2.2.2 k hlt l hll; unfold SmallE at this; rw [E1.out] at this; omega), rfl⟩
                · by_cases g3 : 262144 ≤ a
                  · go_wp2_with fail
                    go_ret
                    exact ⟨ret_undec (fun h => by have := h.2.2.2 k hlt l hll; unfold SmallE at this; rw [E1.out] at this; omega), rfl⟩
                  · go_wp2_with fail
                    go_round
                    case rel =>
                      exact ⟨l + 1, by omega, by go_num, Lib.hid (fun j hj => by
                        by_cases e : j = l
                        · subst e; unfold SmallE; rw [E1.out, E2.out, ← G1.out]; omega
                        · exact HQ.out j (by omega))⟩
                    case measure => simp [intOf]; omega
              · have g1' : (a != a4) = true := by simp [g1]
                go_wp2_with fail
                go_ret
                exact ⟨ret_undec (fun h => by have := h.2.2.2 k hlt l hll; unfold SmallE at this; rw [E1.out, E2.out] at this; exact g1 this.1), rfl⟩
            · have hd : ((l : Int) < (r.length : Int)) = False := by rw [HRL.out]; simp; omega
              have hle : r.length ≤ l := by rw [HRL.out]; omega
              clear hd
              go_wp2_with fail
              go_round
              case rel =>
                exact ⟨k + 1, by omega, by go_num, Lib.hid (fun i hi j hj => by
                  by_cases e : i = k
                  · subst e; exact HQ.out j (by omega)
                  · exact HR.out i (by omega) j hj)⟩
              case measure => simp [intOf]; omega
        · go_wp2_with fail
          go_ret
          exact ⟨ret_dec ⟨by omega, by omega, HL.out, fun i hi j hj => HR.out i (by omega) j hj⟩, rfl⟩

/-- The first entry is positive and less than 2^16, and at least twice the absolute value of each entry below it (with int64's wraparound). -/
def ShortE (rows : List (List Int)) (i : Nat) : Prop := wrap64 (2 * ent rows i 0) ≤ ent rows 0 0 ∧ wrap64 (-2 * ent rows i 0) ≤ ent rows 0 0
def ShortP (rows : List (List Int)) : Prop :=
  0 < ent rows 0 0 ∧ ent rows 0 0 < 65536 ∧ ∀ i, i < rows.length → 1 ≤ i → ShortE rows i
instance (rows : List (List Int)) (i : Nat) : Decidable (ShortE rows i) := inferInstanceAs (Decidable (_ ∧ _))
instance (rows : List (List Int)) : Decidable (ShortP rows) := inferInstanceAs (Decidable (_ ∧ _ ∧ _))

set_option maxHeartbeats 1000000 in
theorem isShortened_any (A : Option Addr) (c : Nat) (rows : List (List Int)) (w : World) (hx : RdM .i64 w A rows) (lx : rows.length ≤ 9223372036854775807) (hcap : rows.length ≤ c)
    (hn : 2 ≤ rows.length) (hne : ∀ i, i < rows.length → 1 ≤ (rows.getD i []).length) :
    Calls Tryz.prog 82 #[.slice A rows.length c] w fun e w' => e = .returned (.bool (decide (ShortP rows))) ∧ w = w' := by
  have HX := Lib.hid hx
  have HNE := Lib.hid hne
  clear hx hne
  obtain ⟨r, ha⟩ := getElem?_of_lt (l := rows) (k := 0) (by omega)
  obtain ⟨b, off, B, cr, rfl, hc, hcr, hlr, hr⟩ := HX.out.at_ ha
  have hrl : 1 ≤ r.length := by have := HNE.out 0 (by omega); rw [List.getD_eq_getElem?_getD, ha] at this; exact this
  obtain ⟨d, hd⟩ := getElem?_of_lt (l := r) (k := 0) hrl
  obtain ⟨b2, off2, rfl, hc2⟩ := hr.at_ hd
  have E0 := Lib.hid (ent_of ha hd)
  clear ha hd hr
  rw [Nat.add_zero] at hc hc2
  go_enter Tryz.func82, Tryz.ntmps82
  by_cases g1 : d ≤ 0
  · go_wp2_with fail
    go_ret
    exact ⟨ret_undec (fun h => by have := h.1; rw [E0.out] at this; omega), rfl⟩
  by_cases g2 : 65536 ≤ d
  · go_wp2_with fail
    go_ret
    exact ⟨ret_undec (fun h => by have := h.2.1; rw [E0.out] at this; omega), rfl⟩
  go_wp2_with fail
  go_loop [20, 5] (fun i _ => ∃ k : Nat, k ≤ rows.length - 1 ∧ i = .int .i64 k ∧ Hid (∀ i, i < k + 1 → 1 ≤ i → ShortE rows i)) (fun i _ => rows.length - (intOf i).toNat)
  case atStart => exact ⟨0, Nat.zero_le _, rfl, Lib.hid (fun j h h' => by omega)⟩
  case round =>
    obtain ⟨k, hk, rfl, HR⟩ := hrel
    by_cases hlt : k < rows.length - 1
    · obtain ⟨r3, ha3⟩ := getElem?_of_lt (l := rows) (k := k + 1) (by omega)
      obtain ⟨b3, off3, B3, cr3, h33, hc3, hcr3, hlr3, hr3⟩ := HX.out.at_ ha3
      cases h33
      rw [show off + (k + 1) = off + 1 + k from by omega] at hc3
      have hrl3 : 1 ≤ r3.length := by have := HNE.out (k + 1) (by omega); rw [List.getD_eq_getElem?_getD, ha3] at this; exact this
      obtain ⟨a, ha⟩ := getElem?_of_lt (l := r3) (k := 0) hrl3
      obtain ⟨b4, off4, rfl, hc4⟩ := hr3.at_ ha
      rw [Nat.add_zero] at hc4
      have E1 := Lib.hid (ent_of ha3 ha)
      clear ha3 hr3 ha
      by_cases g3 : d < wrap64 (2 * a)
      · go_wp2_with fail
        go_ret
        exact ⟨ret_undec (fun h => by have := h.2.2 (k + 1) (by omega) (by omega); unfold ShortE at this; rw [E0.out, E1.out] at this; omega), rfl⟩
      · by_cases g4 : d < wrap64 (-2 * a)
        · go_wp2_with fail
          go_ret
          exact ⟨ret_undec (fun h => by have := h.2.2 (k + 1) (by omega) (by omega); unfold ShortE at this; rw [E0.out, E1.out] at this; omega), rfl⟩
        · go_wp2_with fail
          go_round
          case rel =>
            exact ⟨k + 1, by omega, by go_num, Lib.hid (fun i hi hi' => by
              by_cases e : i = k + 1
              · subst e; unfold ShortE; rw [E0.out, E1.out]; omega
              · exact HR.out i (by omega) hi')⟩
          case measure => simp [intOf]; omega
    · go_wp2_with fail
      go_ret
      exact ⟨ret_dec ⟨by rw [E0.out]; omega, by rw [E0.out]; omega, fun i hi hi' => HR.out i (by omega) hi'⟩, rfl⟩

end Go.Proofs.YtennjcjjegbhgaaGreat

/-
  The walk of lll.IsReduced.
-/
namespace Go.Proofs.YtennjcjjegbhgaaGreat
open Go.RowKit

theorem Tryz.infoI64 : (Tryz.prog.info? 2).map (fun i => (i.zero, i.size, i.bytes)) = some (some (.int .i64 0), 1, 8) := by kernel_rfl
theorem Tryz.infoSlI64 : (Tryz.prog.info? 23).map (fun i => (i.zero, i.size, i.bytes)) = some (some (.slice none 0 0), 1, 24) := by kernel_rfl

/-- An entry of the next stage, with int64's wraparound. -/
def nxE (stg : List (List Int)) (last : Int) (i j : Nat) : Int :=
  wrap64 (Int.tdiv (wrap64 (wrap64 (ent stg 0 0 * ent stg (i + 1) (j + 1)) - wrap64 (ent stg (i + 1) 0 * ent stg 0 (j + 1)))) last)
def nxM (stg : List (List Int)) (last : Int) : List (List Int) := mkRows (stg.length - 1) (stg.length - 1) (nxE stg last)
def LovP (stg : List (List Int)) (last : Int) : Prop :=
  wrap64 (4 * wrap64 (wrap64 (last * nxE stg last 0 0) + wrap64 (ent stg 1 0 * ent stg 1 0))) < wrap64 (3 * ent stg 0 0 * ent stg 0 0)
instance (stg : List (List Int)) (last : Int) : Decidable (LovP stg last) := inferInstanceAs (Decidable (_ < _))
/-- What the loop of IsReduced answers. -/
def redM : Nat → List (List Int) → Int → Bool
  | 0, _, _ => false
  | f + 1, stg, last =>
    if stg.length ≤ 1 then decide (0 < ent stg 0 0) && decide (ent stg 0 0 ≤ 10000)
    else if ShortP stg then (if LovP stg last then false else redM f (nxM stg last) (ent stg 0 0)) else false
def isReducedM (rows : List (List Int)) : Bool := decide (SmallP rows) && redM rows.length rows 1

/-- The length of a slice, for a loop's measure. -/
def slLen : Value → Nat | .slice _ n _ => n | _ => 0
def Sq (rows : List (List Int)) : Prop := ∀ i, i < rows.length → (rows.getD i []).length = rows.length
theorem Sq.at_ {rows : List (List Int)} (h : Sq rows) {i : Nat} {r : List Int} (hi : rows[i]? = some r) : r.length = rows.length := by
  have hlt : i < rows.length := by
    rcases Nat.lt_or_ge i rows.length with hl | hg
    · exact hl
    · rw [List.getElem?_eq_none hg] at hi; cases hi
  have := h i hlt
  rw [List.getD_eq_getElem?_getD, hi] at this; exact this
theorem Sq.nx (stg : List (List Int)) (last : Int) : Sq (nxM stg last) := by
  intro i hi
  unfold nxM at *
  rw [mkRows_length] at *
  simp [mkRows, List.getD_eq_getElem?_getD, hi]

/-- Entry (i, j) of a square matrix in memory. -/
theorem RdM.ent_ {w : World} {A : Option Addr} {rows : List (List Int)} (h : RdM .i64 w A rows) (hs : Sq rows) {i j : Nat} (hi : i < rows.length) (hj : j < rows.length) :
    ∃ b off b2 off2 c, A = some ⟨b, off, none⟩ ∧ w.cell? ⟨b, off + i, none⟩ = some (.slice (some ⟨b2, off2, none⟩) rows.length c) ∧ rows.length ≤ c ∧ w.cell? ⟨b2, off2 + j, none⟩ = some (.int .i64 (ent rows i j)) := by
  obtain ⟨r, ha⟩ := getElem?_of_lt hi
  obtain ⟨b, off, B, cr, rfl, hc, hcr, hlr, hr⟩ := h.at_ ha
  have hl := hs.at_ ha
  obtain ⟨a, ha2⟩ := getElem?_of_lt (l := r) (k := j) (by omega)
  obtain ⟨b2, off2, rfl, hc2⟩ := hr.at_ ha2
  exact ⟨b, off, b2, off2, cr, rfl, by rw [← hl]; exact hc, by omega, by rw [ent_of ha ha2]; exact hc2⟩

theorem RdM.row_ {w : World} {A : Option Addr} {rows : List (List Int)} (h : RdM .i64 w A rows) (hs : Sq rows) {i : Nat} (hi : i < rows.length) :
    ∃ b off b2 off2 c, A = some ⟨b, off, none⟩ ∧ w.cell? ⟨b, off + i, none⟩ = some (.slice (some ⟨b2, off2, none⟩) rows.length c) ∧ rows.length ≤ c ∧ ∀ j, j < rows.length → w.cell? ⟨b2, off2 + j, none⟩ = some (.int .i64 (ent rows i j)) := by
  obtain ⟨r, ha⟩ := getElem?_of_lt hi
  obtain ⟨b, off, B, cr, rfl, hc, hcr, hlr, hr⟩ := h.at_ ha
  have hl := hs.at_ ha
  obtain ⟨b2, off2, rfl, hc2⟩ := hr (by
    intro e
    have := congrArg List.length e
    simp at this
    subst this
    simp at hl; omega)
  refine ⟨b, off, b2, off2, cr, rfl, by rw [← hl]; exact hc, by omega, fun j hj => ?_⟩
  obtain ⟨a, ha2⟩ := getElem?_of_lt (l := r) (k := j) (by omega)
  rw [ent_of ha ha2]
  exact hc2 j _ (by simp [ha2])

set_option maxHeartbeats 2000000 in
set_option maxRecDepth 100000 in
theorem isReduced_any (A : Option Addr) (c : Nat) (rows : List (List Int)) (w : World) (hx : RdM .i64 w A rows) (lx : rows.length ≤ 9223372036854775807) (hcap : rows.length ≤ c) :
    Calls Tryz.prog 42 #[.slice A rows.length c] w fun e w' => e = .returned (.bool (isReducedM rows)) ∧ Ext w w' := by
  have HX := Lib.hid hx
  clear hx
  by_cases hS : SmallP rows
  · have hSd : decide (SmallP rows) = true := by simp [hS]
    have HS := Lib.hid hS
    have hn1 : 1 ≤ rows.length := hS.1
    have hn8 : rows.length ≤ 8 := hS.2.1
    have HF : Hid (isReducedM rows = redM rows.length rows 1) := Lib.hid (by simp [isReducedM, hS])
    clear hS
    go_enter Tryz.func42, Tryz.ntmps42
    go_wp2_with (go_at_call 81; refine (isSmall_any A c rows _ HX.out lx).mono ?_; rintro e w' ⟨rfl, rfl⟩)
    clear hSd
    go_loopw [3, 4, 5, 6, 7, 8, 9, 10] (fun s l _ _ _ _ _ _ wr => ∃ (B : Option Addr) (cap : Nat) (stg : List (List Int)) (last : Int), s = .slice B stg.length cap ∧ l = .int .i64 last ∧ 1 ≤ stg.length ∧ stg.length ≤ 8 ∧ stg.length ≤ cap ∧ 1 ≤ last ∧ last < 65536 ∧ Hid (Sq stg) ∧ Hid (RdM .i64 wr B stg) ∧ Hid (Ext w wr) ∧ Hid (redM stg.length stg last = redM rows.length rows 1))
      (fun s _ _ _ _ _ _ _ _ => slLen s)
    case atStart => exact ⟨A, c, rows, 1, rfl, rfl, hn1, hn8, hcap, by omega, by omega, Lib.hid HS.out.2.2.1, HX, Lib.hid (Ext.refl _), Lib.hid rfl⟩
    case round =>
      clear HX HS hn1 hn8 hcap
      obtain ⟨B, cap, stg, last, rfl, rfl, h1, h8, hcap, hl0, hl1, HSq, HR, HE, HQ⟩ := hrel
      by_cases hlen : 1 < stg.length
      · obtain ⟨b, off, b2, off2, c2, rfl, hc1, hcap2, hc2⟩ := HR.out.ent_ HSq.out (i := 0) (j := 0) (by omega) (by omega)
        rw [Nat.add_zero] at hc1 hc2
        by_cases hP : ShortP stg
        · have hPd : decide (ShortP stg) = true := by simp [hP]
          have hd0 : 0 < ent stg 0 0 := hP.1
          have hd1 : ent stg 0 0 < 65536 := hP.2.1
          have HP := Lib.hid hP
          clear hP
          obtain ⟨m, hm⟩ : ∃ m, stg.length = m + 1 := ⟨stg.length - 1, by omega⟩
          have hm1 : 1 ≤ m := by omega
          have hm8 : m ≤ 7 := by omega
          have hmk0 := run_make_row' (P := Tryz.prog) 22 23 (.slice none 0 0) 24 Tryz.underlying22 Tryz.infoSlI64 rfl .i64 .i64 m (by omega) (by omega)
          have hmk1 := run_make_row' (P := Tryz.prog) 23 2 (.int .i64 0) 8 Tryz.underlying23 Tryz.infoI64 rfl .i64 .i64 m (by omega) (by omega)
          have hsub : ((stg.length : Int) - 1) = (m : Int) := by omega
          have hmkA : ∀ w : World, (Instr.makeSlice 22 (.int .i64 ((stg.length : Int) - 1)) (.int .i64 ((stg.length : Int) - 1))).run Tryz.prog w = .ok (.slice (some ⟨w.heap.size, 0, none⟩) m m) (w.alloc (.cells (madeCells #[.slice none 0 0] m) 23)) := by rw [hsub]; exact hmk0
          clear hmk0 hsub
          have HM := Lib.hid hm
          have hmle : m < stg.length := by omega
          have hmge : stg.length ≤ m + 1 := by omega
          clear hm
          go_wp2_with (go_at_call 82; refine (isShortened_any _ cap stg _ HR.out (by omega) hcap (by omega) (fun i hi => by rw [HSq.out i hi]; omega)).mono ?_; rintro e w' ⟨rfl, rfl⟩)
          clear hmkA hPd
          obtain ⟨wo, rfl⟩ : ∃ wo : World, wo = wr := ⟨_, rfl⟩
          go_loopw [32, 7, 8, 9] (fun i _ _ _ wx => ∃ (r : Nat) (g : Nat → Nat), r ≤ m ∧ i = .int .i64 r ∧ Hid (MxO wo wx 23 2 m m r g (fun i j => .int .i64 (nxE stg last i j)))) (fun i _ _ _ _ => m - (intOf i).toNat)
          case atStart => exact ⟨0, fun _ => 0, Nat.zero_le _, rfl, Lib.hid (mxO_start wo _ _ m m _ _)⟩
          case round =>
            obtain ⟨r, g, hr, rfl, HO⟩ := hrel
            by_cases hrm : r < m
            · have hbw : b < wo.heap.size := cell_lt (p := ⟨b, off, none⟩) hc1
              obtain ⟨b', off', b3, off3, c3, hbb, hc3, hcap3, hrow⟩ := HR.out.row_ HSq.out (i := r + 1) (by omega)
              cases hbb
              have g0 : wr.cell? ⟨b, off + (r + 1), none⟩ = some (.slice (some ⟨b3, off3, none⟩) stg.length c3) := HO.out.ext.cell hc3
              have hst1 : ∀ o, (wr.alloc o).cell? ⟨wo.heap.size, r, none⟩ = some (.slice none 0 0) := fun o => by
                have := (HO.out.top.alloc o).cell hrm
                rw [this]; simp
              have hst2 : ∀ o, (wr.alloc o).frozen? ⟨wo.heap.size, r, none⟩ = false := fun o => (HO.out.top.alloc o).frozen r
              have HRow := Lib.hid hrow
              clear hrow
              go_wp2_with fail
              have HI0 := Lib.hid (mxI_start (.int .i64 0) HO.out)
              clear hst1 hst2 g0 hmk1
              obtain ⟨g', HI, hg'⟩ : ∃ g' : Nat → Nat, Hid (MxI wo ((wr.alloc (.cells (madeCells #[.int .i64 0] m) 2)).setCell ⟨wo.heap.size, r, none⟩ (.slice (some ⟨wr.heap.size, 0, none⟩) m m)) 23 2 m m r 0 g' (fun i j => .int .i64 (nxE stg last i j)) (.int .i64 0)) ∧ Hid (g' r = wr.heap.size) := ⟨_, HI0, Lib.hid (by simp)⟩
              clear HI0
              go_loopw [48, 9] (fun i _ wx => ∃ (l : Nat), l ≤ m ∧ i = .int .i64 l ∧ Hid (MxI wo wx 23 2 m m r l g' (fun i j => .int .i64 (nxE stg last i j)) (.int .i64 0))) (fun i _ _ => m - (intOf i).toNat)
              case atStart => exact ⟨0, Nat.zero_le _, rfl, HI⟩
              case round =>
                clear HI
                obtain ⟨l, hl, rfl, HI⟩ := hrel
                by_cases hlm : l < m
                · have t1 : wr.cell? ⟨wo.heap.size, r, none⟩ = some (.slice (some ⟨g' r, 0, none⟩) m m) := by rw [HI.out.top.cell hrm, if_pos (by omega)]
                  have t2 : wr.cell? ⟨b3, off3 + (l + 1), none⟩ = some (.int .i64 (ent stg (r + 1) (l + 1))) := HI.out.ext.cell (HRow.out (l + 1) (by omega))
                  have t3 : wr.cell? ⟨b3, off3, none⟩ = some (.int .i64 (ent stg (r + 1) 0)) := HI.out.ext.cell (HRow.out 0 (by omega))
                  have t4 : wr.cell? ⟨b, off, none⟩ = some (.slice (some ⟨b2, off2, none⟩) stg.length c2) := HI.out.ext.cell hc1
                  have t5 : wr.cell? ⟨b2, off2 + (l + 1), none⟩ = some (.int .i64 (ent stg 0 (l + 1))) := by
                    obtain ⟨b', off', b4, off4, c4, hbb, hc4, _, hrow4⟩ := HR.out.row_ HSq.out (i := 0) (by omega)
                    cases hbb
                    rw [Nat.add_zero, hc1] at hc4
                    injection hc4 with hc4
                    injection hc4 with hc4 _ _
                    injection hc4 with hc4
                    injection hc4 with e1 e2 _
                    subst e1 e2
                    exact HI.out.ext.cell (hrow4 (l + 1) (by omega))
                  have t6 : wr.cell? ⟨g' r, l, none⟩ = some (.int .i64 0) := by rw [HI.out.cur.cell hlm, if_neg (by omega)]
                  have t7 : wr.frozen? ⟨g' r, l, none⟩ = false := HI.out.cur.frozen l
                  have hl2 : (l : Int) + 1 < (stg.length : Int) := by omega
                  have hl3 : l + 1 < stg.length := by omega
                  have hlast : (last == 0) = false := by simp; omega
                  go_wp2_with fail
                  go_big_region
                  go_wp2_with fail
                  go_roundw
                  case rel => exact ⟨l + 1, by omega, by go_num, Lib.hid ((mxI_step HI.out rfl).drew)⟩
                  case measure => simp [intOf]; omega
                · go_wp2_with fail
                  go_roundw
                  case rel => exact ⟨r + 1, g', by omega, by go_num, Lib.hid (mxI_done HI.out (by omega))⟩
                  case measure => simp [intOf]; omega
            · have hrm' : m ≤ r := by omega
              have u0 : wr.cell? ⟨wo.heap.size, 0, none⟩ = some (.slice (some ⟨g 0, 0, none⟩) m m) := by rw [HO.out.top.cell (by omega), if_pos (by omega)]
              have u1 : wr.cell? ⟨g 0, 0, none⟩ = some (.int .i64 (nxE stg last 0 0)) := by rw [(HO.out.done 0 (by omega)).cell (by omega)]
              obtain ⟨b', off', b3, off3, c3, hbb, hc3, hcap3, hrow⟩ := HR.out.row_ HSq.out (i := 1) (by omega)
              cases hbb
              have u2' : wr.cell? ⟨b, off + 1, none⟩ = some (.slice (some ⟨b3, off3, none⟩) stg.length c3) := HO.out.ext.cell hc3
              have u3 : wr.cell? ⟨b3, off3, none⟩ = some (.int .i64 (ent stg 1 0)) := HO.out.ext.cell (by have := hrow 0 (by omega); rw [Nat.add_zero] at this; exact this)
              clear hrow hmk1
              by_cases hL : LovP stg last
              · have hL' := hL
                unfold LovP at hL'
                go_wp2_with fail
                go_ret
                exact ⟨ret_bool (by
                  rw [HF.out, ← HQ.out]
                  obtain ⟨f, hf⟩ : ∃ f, stg.length = f + 1 := ⟨stg.length - 1, by omega⟩
                  rw [hf, redM, if_neg (by omega), if_pos HP.out, if_pos hL]), HE.out.trans HO.out.ext⟩
              · have hL' := hL
                unfold LovP at hL'
                go_wp2_with fail
                go_roundw
                case rel =>
                  have hlen2 : (nxM stg last).length = m := by unfold nxM; rw [mkRows_length, HM.out]; rfl
                  refine ⟨some ⟨wo.heap.size, 0, none⟩, m, nxM stg last, ent stg 0 0, by rw [hlen2], rfl, by omega, by omega, by omega, by omega, by omega, Lib.hid (Sq.nx _ _), Lib.hid ?_, Lib.hid (HE.out.trans HO.out.ext), Lib.hid ?_⟩
                  · have := HO.out.rd hrm' (by omega)
                    unfold nxM
                    rw [HM.out]
                    exact this
                  · rw [← HQ.out, hlen2]
                    conv => rhs; rw [HM.out, redM, if_neg (by omega), if_pos HP.out, if_neg hL]
                case measure => simp [slLen]; omega
        · have hPd : decide (ShortP stg) = false := by simp [hP]
          have HF2 : Hid (redM stg.length stg last = false) := Lib.hid (by
            obtain ⟨f, hf⟩ : ∃ f, stg.length = f + 1 := ⟨stg.length - 1, by omega⟩
            rw [hf, redM, if_neg (by omega), if_neg hP])
          go_wp2_with (go_at_call 82; refine (isShortened_any _ cap stg _ HR.out (by omega) hcap (by omega) (fun i hi => by rw [HSq.out i hi]; omega)).mono ?_; rintro e w' ⟨rfl, rfl⟩)
          go_ret
          exact ⟨ret_bool (by rw [HF.out, ← HQ.out, HF2.out]), HE.out⟩
      · have hst : stg.length = 1 := by omega
        obtain ⟨b, off, b2, off2, c2, rfl, hc1, hcap2, hc2⟩ := HR.out.ent_ HSq.out (i := 0) (j := 0) (by omega) (by omega)
        rw [Nat.add_zero] at hc1 hc2
        have HF2 : Hid (redM stg.length stg last = (decide (0 < ent stg 0 0) && decide (ent stg 0 0 ≤ 10000))) := Lib.hid (by rw [hst, redM, if_pos (by omega)])
        clear hst
        by_cases h0 : 0 < ent stg 0 0
        · go_wp2_with fail
          go_ret
          exact ⟨ret_bool (by rw [HF.out, ← HQ.out, HF2.out]; simp [h0]), HE.out⟩
        · have h0' : decide (0 < ent stg 0 0) = false := by simpa using h0
          go_wp2_with fail
          go_ret
          exact ⟨ret_bool (by rw [HF.out, ← HQ.out, HF2.out, decide_eq_false (by omega)]; rfl), HE.out⟩
  · have hSd : decide (SmallP rows) = false := by simp [hS]
    go_enter Tryz.func42, Tryz.ntmps42
    go_wp2_with (go_at_call 81; refine (isSmall_any A c rows _ HX.out lx).mono ?_; rintro e w' ⟨rfl, rfl⟩)
    go_ret
    exact ⟨ret_bool (by simp [isReducedM, hS]), Ext.refl _⟩

end Go.Proofs.YtennjcjjegbhgaaGreat

/-
  The walk of vector.apply.
-/
namespace Go.Proofs.YtennjcjjegbhgaaGreat
open Go.RowKit

/-- The sum of the first l products of the entries of two lists, with int64's wraparound. -/
def accW (row x : List Int) : Nat → Int
  | 0 => 0
  | l + 1 => wrap64 (accW row x l + wrap64 (row.getD l 0 * x.getD l 0))
def applyM (rows : List (List Int)) (x : List Int) : List Int := rows.map fun row => accW row x row.length
theorem applyM_at {rows : List (List Int)} {x : List Int} {i : Nat} {z : Int} (h : (applyM rows x)[i]? = some z) : ∃ row, rows[i]? = some row ∧ z = accW row x row.length := by
  unfold applyM at h
  rw [List.getElem?_map] at h
  cases hr : rows[i]? with
  | none => rw [hr] at h; cases h
  | some row => rw [hr] at h; simp at h; exact ⟨row, rfl, h.symm⟩

def apF (rows : List (List Int)) (x : List Int) (r l : Nat) : Nat → Value :=
  fun j => if j < r then .int .i64 (accW (rows.getD j []) x (rows.getD j []).length) else if j = r then .int .i64 (accW (rows.getD j []) x l) else .int .i64 0

theorem apF_lt {rows : List (List Int)} {x : List Int} {r l j : Nat} (h : j < r) : apF rows x r l j = .int .i64 (accW (rows.getD j []) x (rows.getD j []).length) := if_pos h
theorem apF_eq {rows : List (List Int)} {x : List Int} {r l : Nat} : apF rows x r l r = .int .i64 (accW (rows.getD r []) x l) := by
  unfold apF; rw [if_neg (by omega), if_pos rfl]
theorem apF_gt {rows : List (List Int)} {x : List Int} {r l j : Nat} (h : r < j) : apF rows x r l j = .int .i64 0 := by
  unfold apF; rw [if_neg (by omega), if_neg (by omega)]

set_option maxHeartbeats 1000000 in
theorem apply_any (A B : Option Addr) (c d : Nat) (rows : List (List Int)) (x : List Int) (w : World) (hR : RdM .i64 w A rows) (hx : RdI .i64 w B x) (hn : rows.length ≤ 65536) (hl : ∀ i, i < rows.length → (rows.getD i []).length ≤ x.length) (hlx : x.length ≤ 9223372036854775807) :
    Calls Tryz.prog 48 #[.slice A rows.length c, .slice B x.length d] w fun e w' => e = .returned (.slice (some ⟨w.heap.size, 0, none⟩) rows.length rows.length) ∧ RdI .i64 w' (some ⟨w.heap.size, 0, none⟩) (applyM rows x) ∧ Ext w w' := by
  have HR := Lib.hid hR
  have HX := Lib.hid hx
  have HL := Lib.hid hl
  clear hR hx hl
  have hmk := run_make_row' (P := Tryz.prog) 23 2 (.int .i64 0) 8 Tryz.underlying23 Tryz.infoI64 rfl .i64 .i64 rows.length (by omega) (by omega)
  go_enter Tryz.func48, Tryz.ntmps48
  go_wp2_with fail
  clear hmk
  go_loopw [15, 6, 7, 8, 9] (fun i _ _ _ _ wr => ∃ r : Nat, r ≤ rows.length ∧ i = .int .i64 r ∧ Hid (wr.rowIs w.heap.size 2 rows.length (apF rows x r 0)) ∧ Hid (Ext w wr)) (fun i _ _ _ _ _ => rows.length - (intOf i).toNat)
  case atStart => exact ⟨0, Nat.zero_le _, rfl, Lib.hid ((World.rowIs_made w (.int .i64 0) rows.length _).congr (fun j _ => by simp [apF, accW])), Lib.hid ((Ext.refl _).alloc _)⟩
  case round =>
    obtain ⟨r, hr, rfl, HO, HE⟩ := hrel
    by_cases hlt : r < rows.length
    · obtain ⟨row, ha⟩ := getElem?_of_lt hlt
      obtain ⟨b, off, BR, cr, rfl, hc, hcr, hlr, hrow⟩ := (HR.out.ext HE.out).at_ ha
      have hrl : row.length ≤ x.length := by have := HL.out r hlt; rw [List.getD_eq_getElem?_getD, ha] at this; exact this
      have HA := Lib.hid ha
      have HD : Hid (rows.getD r [] = row) := Lib.hid (by rw [List.getD_eq_getElem?_getD, ha]; rfl)
      have HB : Hid (RdI .i64 w BR row) := Lib.hid (by
        obtain ⟨b', off', BR', cr', h1, h2, _, _, h5⟩ := HR.out.at_ ha
        cases h1
        rw [HE.out.cell h2] at hc
        cases hc
        exact h5)
      clear ha hrow
      go_wp2_with fail
      obtain ⟨wo, rfl⟩ : ∃ wo : World, wo = wr := ⟨_, rfl⟩
      go_loopw [22, 8, 9] (fun i _ _ wx => ∃ l : Nat, l ≤ row.length ∧ i = .int .i64 l ∧ Hid (wx.rowIs w.heap.size 2 rows.length (apF rows x r l)) ∧ Hid (Ext w wx)) (fun i _ _ _ => row.length - (intOf i).toNat)
      case atStart => exact ⟨0, Nat.zero_le _, rfl, HO, HE⟩
      case round =>
        clear HO HE hc
        obtain ⟨l, hl, rfl, HO, HE⟩ := hrel
        by_cases hll : l < row.length
        · obtain ⟨a, ha⟩ := getElem?_of_lt hll
          obtain ⟨b2, off2, rfl, hc2⟩ := (HB.out.ext HE.out).at_ ha
          obtain ⟨a3, ha3⟩ := getElem?_of_lt (l := x) (k := l) (by omega)
          obtain ⟨b3, off3, rfl, hc3⟩ := (HX.out.ext HE.out).at_ ha3
          have t1 : wr.cell? ⟨w.heap.size, r, none⟩ = some (.int .i64 (accW row x l)) := by
            rw [HO.out.cell hlt, apF_eq, HD.out]
          have t2 : wr.frozen? ⟨w.heap.size, r, none⟩ = false := HO.out.frozen r
          have HN : Hid (wrap64 (accW row x l + wrap64 (a * a3)) = accW row x (l + 1)) := Lib.hid (by
            simp [accW, List.getD_eq_getElem?_getD, ha, ha3])
          have hlx2 : (l : Int) < (x.length : Int) := by omega
          have HA2 := Lib.hid ha
          clear ha ha3
          go_wp2_with fail
          go_big_region
          go_wp2_with fail
          go_roundw
          case rel =>
            refine ⟨l + 1, by omega, by go_num, Lib.hid ((((HO.out.set r _).congr (fun j _ => ?_))).drew), Lib.hid ((HE.out.setCell (Nat.le_refl _) _).drew)⟩
            by_cases e : j = r
            · subst e
              rw [if_pos rfl, apF_eq, HD.out, HN.out]
            · rw [if_neg e]
              rcases Nat.lt_or_gt_of_ne e with h | h
              · rw [apF_lt h, apF_lt h]
              · rw [apF_gt h, apF_gt h]
          case measure => simp [intOf]; omega
        · go_wp2_with fail
          go_roundw
          case rel =>
            refine ⟨r + 1, by omega, by go_num, Lib.hid (HO.out.congr (fun j _ => ?_)), HE⟩
            have : l = row.length := by omega
            subst this
            rcases Nat.lt_trichotomy j r with h | h | h
            · rw [apF_lt h, apF_lt (by omega)]
            · subst h
              rw [apF_eq, apF_lt (by omega), HD.out]
            · rw [apF_gt h]
              by_cases e : j = r + 1
              · subst e; rw [apF_eq]; rfl
              · rw [apF_gt (by omega)]
          case measure => simp [intOf]; omega
    · go_wp2_with fail
      go_ret
      refine ⟨rfl, RdI.of_row HO.out (by simp [applyM]) (fun i z hz => ?_), HE.out⟩
      obtain ⟨row, h1, rfl⟩ := applyM_at hz
      have hi : i < rows.length := by
        rcases Nat.lt_or_ge i rows.length with hl | hg
        · exact hl
        · rw [List.getElem?_eq_none hg] at h1; cases h1
      rw [apF_lt (by omega), List.getD_eq_getElem?_getD, h1]
      rfl

end Go.Proofs.YtennjcjjegbhgaaGreat

/-
  The walks of math/bits.Add64, Sub64, Mul64 at this program, of (wide).add and (wide).minus.
-/
namespace Go.Proofs.YtennjcjjegbhgaaGreat
open Go.RowKit

theorem add64_run (x y c : Int) (hx : 0 ≤ x) (hx' : x < 18446744073709551616) (hy : 0 ≤ y) (hy' : y < 18446744073709551616) (hc0 : 0 ≤ c) (hc : c ≤ 1) (w : World) : (callFunc 129 #[.int .u64 x, .int .u64 y, .int .u64 c]).run Tryz.prog w =
    .ok (.value (.tuple #[.int .u64 ((x + y + c) % 18446744073709551616), .int .u64 ((x + y + c) / 18446744073709551616)])) w := by
  obtain ⟨x, rfl⟩ := Int.eq_ofNat_of_zero_le hx
  obtain ⟨y, rfl⟩ := Int.eq_ofNat_of_zero_le hy
  obtain ⟨c, rfl⟩ := Int.eq_ofNat_of_zero_le hc0
  rw [run_callFunc_extern Tryz.func129 (by kernel_rfl) (by kernel_rfl) (by kernel_rfl) (e := add64Entry) (by kernel_rfl), run_add64 x y c (by omega) (by omega) (by omega) (by omega)]
  rfl

theorem sub64_run (x y b : Int) (hx : 0 ≤ x) (hy : 0 ≤ y) (hy' : y < 18446744073709551616) (hb0 : 0 ≤ b) (hb : b ≤ 1) (w : World) : (callFunc 130 #[.int .u64 x, .int .u64 y, .int .u64 b]).run Tryz.prog w =
    .ok (.value (.tuple #[.int .u64 ((x - y - b) % 18446744073709551616), .int .u64 (if x < y + b then 1 else 0)])) w := by
  obtain ⟨x, rfl⟩ := Int.eq_ofNat_of_zero_le hx
  obtain ⟨y, rfl⟩ := Int.eq_ofNat_of_zero_le hy
  obtain ⟨b, rfl⟩ := Int.eq_ofNat_of_zero_le hb0
  have e1 : (((x + 18446744073709551616 - y - b) % 18446744073709551616 : Nat) : Int) = ((x : Int) - y - b) % 18446744073709551616 := by omega
  have e2 : ((if x < y + b then 1 else 0 : Nat) : Int) = if (x : Int) < y + b then 1 else 0 := by split <;> split <;> omega
  rw [← e1, ← e2]
  rw [run_callFunc_extern Tryz.func130 (by kernel_rfl) (by kernel_rfl) (by kernel_rfl) (e := sub64Entry) (by kernel_rfl), run_sub64 x y b (by omega)]
  rfl

set_option maxHeartbeats 1000000 in
theorem mul64_nat (x y : Nat) (hx : x < 18446744073709551616) (hy : y < 18446744073709551616) (w : World) :
    Calls Tryz.prog 128 #[.int .u64 x, .int .u64 y] w fun e w' => e = .returned (.tuple #[.int .u64 ((x * y / 18446744073709551616 : Nat) : Int), .int .u64 ((x * y % 18446744073709551616 : Nat) : Int)]) ∧ w = w' := by
  obtain ⟨bd, bt, bw, hhi⟩ := Lib.mul64_hi x y hx hy
  have ba := Lib.half_mul_le (a := x / 4294967296) (b := y / 4294967296) (by omega) (by omega)
  have bb := Lib.half_mul_le (a := x / 4294967296) (b := y % 4294967296) (by omega) (by omega)
  have bc := Lib.half_mul_le (a := x % 4294967296) (b := y / 4294967296) (by omega) (by omega)
  have ba' : x / 4294967296 * (y / 4294967296) < 18446744073709551616 := by omega
  have bb' : x / 4294967296 * (y % 4294967296) < 18446744073709551616 := by omega
  have bc' : x % 4294967296 * (y / 4294967296) < 18446744073709551616 := by omega
  have bh1 : x / 4294967296 * (y / 4294967296) + (x / 4294967296 * (y % 4294967296) + x % 4294967296 * (y % 4294967296) / 4294967296) / 4294967296 < 18446744073709551616 := by omega
  have bh : x / 4294967296 * (y / 4294967296) + (x / 4294967296 * (y % 4294967296) + x % 4294967296 * (y % 4294967296) / 4294967296) / 4294967296 + ((x / 4294967296 * (y % 4294967296) + x % 4294967296 * (y % 4294967296) / 4294967296) % 4294967296 + x % 4294967296 * (y / 4294967296)) / 4294967296 < 18446744073709551616 := by omega
  go_enter Tryz.func128, Tryz.ntmps128
  go_wp2
  simp only [Mul64.maskN x hx, Mul64.maskN y hy, Mul64.divN, Mul64.mulN, Mul64.addN, Mul64.wrapN _ bd, Mul64.wrapN _ bb', Mul64.wrapN _ bt, Mul64.maskN _ bt, Mul64.wrapN _ bc', Mul64.wrapN _ bw, Mul64.wrapN _ ba', Mul64.wrapN _ bh1, Mul64.wrapN _ bh, Mul64.wrapM (x * y)]
  rw [hhi]
  go_ret2
  exact ⟨rfl, rfl⟩

/-- A natural number below 2^128 as a 'wide'. -/
def wd (n : Nat) : Value := .agg #[.int .u64 ((n / 18446744073709551616 : Nat) : Int), .int .u64 ((n % 18446744073709551616 : Nat) : Int)]

theorem wadd_hi (n p : Nat) (h : n + p < 340282366920938463463374607431768211456) :
    (((n / 18446744073709551616 : Nat) : Int) + ((p / 18446744073709551616 : Nat) : Int) + (((n % 18446744073709551616 : Nat) : Int) + ((p % 18446744073709551616 : Nat) : Int)) / 18446744073709551616) % 18446744073709551616 = (((n + p) / 18446744073709551616 : Nat) : Int) := by omega
theorem wadd_lo (n p : Nat) :
    (((n % 18446744073709551616 : Nat) : Int) + ((p % 18446744073709551616 : Nat) : Int)) % 18446744073709551616 = (((n + p) % 18446744073709551616 : Nat) : Int) := by omega

theorem add64_run0 (x y : Int) (hx : 0 ≤ x) (hx' : x < 18446744073709551616) (hy : 0 ≤ y) (hy' : y < 18446744073709551616) (w : World) : (callFunc 129 #[.int .u64 x, .int .u64 y, .int .u64 0]).run Tryz.prog w =
    .ok (.value (.tuple #[.int .u64 ((x + y) % 18446744073709551616), .int .u64 ((x + y) / 18446744073709551616)])) w := by
  simpa using add64_run x y 0 hx hx' hy hy' (by omega) (by omega) w

set_option maxHeartbeats 1000000 in
theorem wideAdd_any (n x y : Nat) (hx : x < 18446744073709551616) (hy : y < 18446744073709551616) (hn : n + x * y < 340282366920938463463374607431768211456) (w : World) :
    Calls Tryz.prog 88 #[wd n, .int .u64 x, .int .u64 y] w fun e w' => e = .returned (wd (n + x * y)) ∧ Ext w w' := by
  have hp : x * y / 18446744073709551616 < 18446744073709551616 := by omega
  obtain ⟨nh, hnh⟩ : ∃ k : Nat, k = n / 18446744073709551616 := ⟨_, rfl⟩
  obtain ⟨nl, hnl⟩ : ∃ k : Nat, k = n % 18446744073709551616 := ⟨_, rfl⟩
  obtain ⟨ph, hph⟩ : ∃ k : Nat, k = x * y / 18446744073709551616 := ⟨_, rfl⟩
  obtain ⟨pl, hpl⟩ : ∃ k : Nat, k = x * y % 18446744073709551616 := ⟨_, rfl⟩
  have b1 : (nh : Int) < 18446744073709551616 := by omega
  have b2 : (nl : Int) < 18446744073709551616 := by omega
  have b3 : (ph : Int) < 18446744073709551616 := by omega
  have b4 : (pl : Int) < 18446744073709551616 := by omega
  have c1 : 0 ≤ ((nl : Int) + (pl : Int)) / 18446744073709551616 := by omega
  have c2 : ((nl : Int) + (pl : Int)) / 18446744073709551616 ≤ 1 := by omega
  have HM := Lib.hid (mul64_nat x y hx hy)
  have HLo : Hid (((nl : Int) + (pl : Int)) % 18446744073709551616 = ((n : Int) + (x : Int) * (y : Int)) % 18446744073709551616) := Lib.hid (by
    have := wadd_lo n (x * y); rw [← hnl, ← hpl] at this; rw [this]; simp)
  have HHi : Hid (((nh : Int) + (ph : Int) + ((nl : Int) + (pl : Int)) / 18446744073709551616) % 18446744073709551616 = ((n : Int) + (x : Int) * (y : Int)) / 18446744073709551616) := Lib.hid (by
    have := wadd_hi n (x * y) hn; rw [← hnl, ← hpl, ← hnh, ← hph] at this; rw [this]; simp)
  unfold wd
  rw [← hnh, ← hnl] at *
  rw [← hph, ← hpl] at *
  have e1 := add64_run0 nl pl (by omega) b2 (by omega) b4
  have e2 := add64_run nh ph _ (by omega) b1 (by omega) b3 c1 c2
  clear hnh hnl hph hpl hn hp
  go_enter Tryz.func88, Tryz.ntmps88
  go_wp2_with (first | (go_at_call 128; refine (HM.out _).mono ?_; rintro e w' ⟨rfl, rfl⟩) | simp only [e1] | simp only [e2])
  refine bodyPost_ret (v := .agg #[.int .u64 ((((n + x * y) / 18446744073709551616 : Nat) : Int)), .int .u64 ((((n + x * y) % 18446744073709551616 : Nat) : Int))]) ?_ rfl ⟨rfl, ?_⟩
  · simp [results, Tryz.results88, go_sem]
    exact ⟨HHi.out, HLo.out⟩
  · exact ((Ext.refl _).alloc _).alloc _

theorem wsub_ge {n m : Nat} (h : m ≤ n) : (n : Int) - m = ((n - m : Nat) : Int) := by omega

/-- What (wide).minus answers. -/
def wminus (n m : Nat) : Option Nat := if m ≤ n ∧ n - m ≤ 4611686018427387904 then some (n - m) else none
def wminusV (n m : Nat) : Value := match wminus n m with
  | some k => .tuple #[.int .i64 k, .bool true]
  | none => .tuple #[.int .i64 0, .bool false]

theorem wminusV_none {n m : Nat} (h : ¬ (m ≤ n ∧ n - m ≤ 4611686018427387904)) : wminusV n m = .tuple #[.int .i64 0, .bool false] := by
  unfold wminusV wminus; rw [if_neg h]
theorem wminusV_some {n m : Nat} (h : m ≤ n ∧ n - m ≤ 4611686018427387904) {d : Int} (hd : ((n - m : Nat) : Int) = d) : wminusV n m = .tuple #[.int .i64 d, .bool true] := by
  unfold wminusV wminus; rw [if_pos h, ← hd]

theorem sub64_run0 (x y : Int) (hx : 0 ≤ x) (hy : 0 ≤ y) (hy' : y < 18446744073709551616) (w : World) : (callFunc 130 #[.int .u64 x, .int .u64 y, .int .u64 0]).run Tryz.prog w =
    .ok (.value (.tuple #[.int .u64 ((x - y) % 18446744073709551616), .int .u64 (if x < y then 1 else 0)])) w := by
  simpa using sub64_run x y 0 hx hy hy' (by omega) (by omega) w

set_option maxHeartbeats 1000000 in
theorem wideMinus_any (n m : Nat) (hn : n < 340282366920938463463374607431768211456) (hm : m < 340282366920938463463374607431768211456) (w : World) :
    Calls Tryz.prog 89 #[wd n, wd m] w fun e w' => e = .returned (wminusV n m) ∧ Ext w w' := by
  obtain ⟨nh, hnh⟩ : ∃ k : Nat, k = n / 18446744073709551616 := ⟨_, rfl⟩
  obtain ⟨nl, hnl⟩ : ∃ k : Nat, k = n % 18446744073709551616 := ⟨_, rfl⟩
  obtain ⟨mh, hmh⟩ : ∃ k : Nat, k = m / 18446744073709551616 := ⟨_, rfl⟩
  obtain ⟨ml, hml⟩ : ∃ k : Nat, k = m % 18446744073709551616 := ⟨_, rfl⟩
  have b1 : (nh : Int) < 18446744073709551616 := by omega
  have b2 : (nl : Int) < 18446744073709551616 := by omega
  have b3 : (mh : Int) < 18446744073709551616 := by omega
  have b4 : (ml : Int) < 18446744073709551616 := by omega
  have HE : Hid (n = nh * 18446744073709551616 + nl ∧ m = mh * 18446744073709551616 + ml) := Lib.hid (by omega)
  obtain ⟨V, hV⟩ : ∃ V, V = wminusV n m := ⟨_, rfl⟩
  unfold wd
  rw [← hnh, ← hnl, ← hmh, ← hml, ← hV]
  have HV := Lib.hid hV
  clear hnh hnl hmh hml hV hn hm
  have e1 := sub64_run0 nl ml (by omega) (by omega) b4
  obtain ⟨b, hb⟩ : ∃ b : Int, b = if (nl : Int) < ml then 1 else 0 := ⟨_, rfl⟩
  have hb' : b = 0 ∧ (ml : Int) ≤ nl ∨ b = 1 ∧ (nl : Int) < ml := by rw [hb]; split <;> omega
  have hb0 : 0 ≤ b := by omega
  have hb1 : b ≤ 1 := by omega
  have e2 := sub64_run nh mh b (by omega) (by omega) b3 hb0 hb1
  rw [← hb] at e1
  clear hb
  obtain ⟨dl, hdl⟩ : ∃ k : Int, k = ((nl : Int) - ml) % 18446744073709551616 := ⟨_, rfl⟩
  obtain ⟨dh, hdh⟩ : ∃ k : Int, k = ((nh : Int) - mh - b) % 18446744073709551616 := ⟨_, rfl⟩
  obtain ⟨b2', hb2⟩ : ∃ k : Int, k = if (nh : Int) < mh + b then 1 else 0 := ⟨_, rfl⟩
  rw [← hdl] at e1
  rw [← hdh, ← hb2] at e2
  have d0 : 0 ≤ dl := by omega
  have d1 : dl < 18446744073709551616 := by omega
  have d2 : 0 ≤ dh := by omega
  have d3 : dh < 18446744073709551616 := by omega
  have HD := Lib.hid (And.intro hdl (And.intro hdh (And.intro hb2 hb')))
  clear hdl hdh hb2 hb'
  by_cases g1 : b2' = 0
  · have g1' : (b2' != 0) = false := by simp [g1]
    have G1 := Lib.hid g1
    clear g1
    by_cases g2 : dh = 0
    · have g2' : (dh != 0) = false := by simp [g2]
      have G2 := Lib.hid g2
      clear g2
      by_cases g3 : 4611686018427387904 < dl
      · go_enter Tryz.func89, Tryz.ntmps89
        go_wp2_with (first | simp only [e1] | simp only [e2])
        go_ret2
        refine ⟨?_, ((Ext.refl _).alloc _).alloc _⟩
        rw [HV.out]
        obtain ⟨q1, q2, q3, q4⟩ := HD.out
        obtain ⟨q5, q6⟩ := HE.out
        have q7 := G1.out; have q8 := G2.out
        (rw [wminusV_none (by split at q3 <;> omega)]) <;> rfl
      · go_enter Tryz.func89, Tryz.ntmps89
        go_wp2_with (first | simp only [e1] | simp only [e2])
        go_ret2
        refine ⟨?_, ((Ext.refl _).alloc _).alloc _⟩
        rw [HV.out]
        obtain ⟨q1, q2, q3, q4⟩ := HD.out
        obtain ⟨q5, q6⟩ := HE.out
        have q7 := G1.out; have q8 := G2.out
        (rw [wminusV_some (by split at q3 <;> omega) (d := dl) (by split at q3 <;> omega)]) <;> rfl
    · have g2' : (dh != 0) = true := by simp [g2]
      go_enter Tryz.func89, Tryz.ntmps89
      go_wp2_with (first | simp only [e1] | simp only [e2])
      go_ret2
      refine ⟨?_, ((Ext.refl _).alloc _).alloc _⟩
      rw [HV.out]
      obtain ⟨q1, q2, q3, q4⟩ := HD.out
      obtain ⟨q5, q6⟩ := HE.out
      have q7 := G1.out
      (rw [wminusV_none (by split at q3 <;> omega)]) <;> rfl
  · have g1' : (b2' != 0) = true := by simp [g1]
    go_enter Tryz.func89, Tryz.ntmps89
    go_wp2_with (first | simp only [e1] | simp only [e2])
    go_ret2
    refine ⟨?_, ((Ext.refl _).alloc _).alloc _⟩
    rw [HV.out]
    obtain ⟨q1, q2, q3, q4⟩ := HD.out
    obtain ⟨q5, q6⟩ := HE.out
    (rw [wminusV_none (by split at q3 <;> omega)]) <;> rfl

end Go.Proofs.YtennjcjjegbhgaaGreat

/-
  The walk of vector.dot.
-/
namespace Go.Proofs.YtennjcjjegbhgaaGreat
open Go.RowKit

theorem wideAdd_int (h l x y : Int) (h0 : 0 ≤ h) (h1 : h < 18446744073709551616) (l0 : 0 ≤ l) (l1 : l < 18446744073709551616) (x0 : 0 ≤ x) (x1 : x < 18446744073709551616) (y0 : 0 ≤ y) (y1 : y < 18446744073709551616)
    (hs : h * 18446744073709551616 + l + x * y < 340282366920938463463374607431768211456) (w : World) :
    Calls Tryz.prog 88 #[.agg #[.int .u64 h, .int .u64 l], .int .u64 x, .int .u64 y] w fun e w' =>
      ∃ h' l' : Int, e = .returned (.agg #[.int .u64 h', .int .u64 l']) ∧ 0 ≤ h' ∧ h' < 18446744073709551616 ∧ 0 ≤ l' ∧ l' < 18446744073709551616 ∧ h' * 18446744073709551616 + l' = h * 18446744073709551616 + l + x * y ∧ Ext w w' := by
  obtain ⟨h, rfl⟩ := Int.eq_ofNat_of_zero_le h0
  obtain ⟨l, rfl⟩ := Int.eq_ofNat_of_zero_le l0
  obtain ⟨x, rfl⟩ := Int.eq_ofNat_of_zero_le x0
  obtain ⟨y, rfl⟩ := Int.eq_ofNat_of_zero_le y0
  have key := wideAdd_any (h * 18446744073709551616 + l) x y (by omega) (by omega) (by omega) w
  have e1 : wd (h * 18446744073709551616 + l) = .agg #[.int .u64 (h : Int), .int .u64 (l : Int)] := by
    unfold wd
    rw [show (h * 18446744073709551616 + l) / 18446744073709551616 = h from by omega, show (h * 18446744073709551616 + l) % 18446744073709551616 = l from by omega]
  rw [e1] at key
  refine key.mono fun e w' ⟨he, hw⟩ => ?_
  have hnn : ((h * 18446744073709551616 + l + x * y : Nat) : Int) = (h : Int) * 18446744073709551616 + l + (x : Int) * y := by simp
  refine ⟨_, _, he, by omega, ?_, by omega, by omega, ?_, hw⟩
  · rw [← hnn] at hs; omega
  · rw [← hnn]; omega

theorem wideMinus_int (h l h2 l2 : Int) (h0 : 0 ≤ h) (h1 : h < 18446744073709551616) (l0 : 0 ≤ l) (l1 : l < 18446744073709551616) (x0 : 0 ≤ h2) (x1 : h2 < 18446744073709551616) (y0 : 0 ≤ l2) (y1 : l2 < 18446744073709551616) (w : World) :
    Calls Tryz.prog 89 #[.agg #[.int .u64 h, .int .u64 l], .agg #[.int .u64 h2, .int .u64 l2]] w fun e w' =>
      e = .returned (wminusV (h * 18446744073709551616 + l).toNat (h2 * 18446744073709551616 + l2).toNat) ∧ Ext w w' := by
  obtain ⟨h, rfl⟩ := Int.eq_ofNat_of_zero_le h0
  obtain ⟨l, rfl⟩ := Int.eq_ofNat_of_zero_le l0
  obtain ⟨h2, rfl⟩ := Int.eq_ofNat_of_zero_le x0
  obtain ⟨l2, rfl⟩ := Int.eq_ofNat_of_zero_le y0
  have key := wideMinus_any (h * 18446744073709551616 + l) (h2 * 18446744073709551616 + l2) (by omega) (by omega) w
  have e1 : ∀ h l : Nat, l < 18446744073709551616 → wd (h * 18446744073709551616 + l) = .agg #[.int .u64 (h : Int), .int .u64 (l : Int)] := fun h l hl => by
    unfold wd
    rw [show (h * 18446744073709551616 + l) / 18446744073709551616 = h from by omega, show (h * 18446744073709551616 + l) % 18446744073709551616 = l from by omega]
  rw [e1 h l (by omega), e1 h2 l2 (by omega)] at key
  rw [show ((h : Int) * 18446744073709551616 + l).toNat = h * 18446744073709551616 + l from by omega, show ((h2 : Int) * 18446744073709551616 + l2).toNat = h2 * 18446744073709551616 + l2 from by omega]
  exact key

/-- The exact sum of the first l products. -/
def accZ (x y : List Int) : Nat → Int
  | 0 => 0
  | l + 1 => accZ x y l + x.getD l 0 * y.getD l 0
def pair (h l : Int) : Nat → Value := fun j => if j = 0 then .int .u64 h else .int .u64 l
/-- What dot answers. -/
def dotV (s : Int) : Value := if -4611686018427387904 ≤ s ∧ s ≤ 4611686018427387904 then .tuple #[.int .i64 s, .bool true] else .tuple #[.int .i64 0, .bool false]

theorem prod_bd {a b : Int} (ha : a ≤ 1099511627776) (ha0 : 0 ≤ a) (hb : b ≤ 2305843009213693952) (hb0 : 0 ≤ b) : 0 ≤ a * b ∧ a * b ≤ 2535301200456458802993406410752 :=
  ⟨Int.mul_nonneg ha0 hb0, by
    have h1 : a * b ≤ 1099511627776 * b := Int.mul_le_mul_of_nonneg_right ha hb0
    omega⟩

set_option maxHeartbeats 1000000 in
theorem dot_any (A B : Option Addr) (c d : Nat) (x y : List Int) (w : World) (hx : RdI .i64 w A x) (hy : RdI .i64 w B y) (hl : x.length ≤ y.length) (hn : x.length ≤ 65536) (hly : y.length ≤ 9223372036854775807)
    (hbx : ∀ (i : Nat) z, x[i]? = some z → -1099511627776 ≤ z ∧ z ≤ 1099511627776) (hby : ∀ (i : Nat) z, y[i]? = some z → -2305843009213693952 ≤ z ∧ z ≤ 2305843009213693952) :
    Calls Tryz.prog 47 #[.slice A x.length c, .slice B y.length d] w fun e w' => e = .returned (dotV (accZ x y x.length)) ∧ Ext w w' := by
  have HX := Lib.hid hx
  have HY := Lib.hid hy
  have HBX := Lib.hid hbx
  have HBY := Lib.hid hby
  clear hx hy hbx hby
  go_enter Tryz.func47, Tryz.ntmps47
  go_wp2_with fail
  go_loopw [17, 8, 9, 10] (fun i _ _ _ wr => ∃ (k : Nat) (ph pl nh nl : Int), k ≤ x.length ∧ i = .int .i64 k ∧ 0 ≤ ph ∧ ph < 18446744073709551616 ∧ 0 ≤ pl ∧ pl < 18446744073709551616 ∧ 0 ≤ nh ∧ nh < 18446744073709551616 ∧ 0 ≤ nl ∧ nl < 18446744073709551616 ∧
      Hid (wr.rowIs w.heap.size 117 2 (pair ph pl)) ∧ Hid (wr.rowIs (w.heap.size + 1) 117 2 (pair nh nl)) ∧ Hid (Ext w wr) ∧
      Hid (ph * 18446744073709551616 + pl - (nh * 18446744073709551616 + nl) = accZ x y k ∧ ph * 18446744073709551616 + pl + (nh * 18446744073709551616 + nl) ≤ k * 2535301200456458802993406410752)) (fun i _ _ _ _ => x.length - (intOf i).toNat)
  case atStart =>
    refine ⟨0, 0, 0, 0, 0, Nat.zero_le _, rfl, by omega, by omega, by omega, by omega, by omega, by omega, by omega, by omega, Lib.hid ?_, Lib.hid ?_, Lib.hid (((Ext.refl _).alloc _).alloc _), Lib.hid ⟨rfl, by omega⟩⟩
    · refine (World.rowIs.alloc (World.rowIs_alloc w _ _ (pair 0 0) ?_) _)
      intro i hi
      match i, hi with
      | 0, _ => rfl
      | 1, _ => rfl
    · have := World.rowIs_alloc (w.alloc (.cells #[.int .u64 0, .int .u64 0] 117)) #[.int .u64 0, .int .u64 0] 117 (pair 0 0) (by
        intro i hi
        match i, hi with
        | 0, _ => rfl
        | 1, _ => rfl)
      simpa using this
  case round =>
    obtain ⟨k, ph, pl, nh, nl, hk, rfl, p0, p1, p2, p3, n0, n1, n2, n3, HP, HN, HE, HQ⟩ := hrel
    have t1 : wr.cell? ⟨w.heap.size, 0, none⟩ = some (.int .u64 ph) := HP.out.cell (by omega)
    have t2 : wr.cell? ⟨w.heap.size, 1, none⟩ = some (.int .u64 pl) := HP.out.cell (by omega)
    have t3 : wr.cell? ⟨w.heap.size + 1, 0, none⟩ = some (.int .u64 nh) := HN.out.cell (by omega)
    have t4 : wr.cell? ⟨w.heap.size + 1, 1, none⟩ = some (.int .u64 nl) := HN.out.cell (by omega)
    by_cases hlt : k < x.length
    · obtain ⟨a, ha⟩ := getElem?_of_lt hlt
      obtain ⟨b, off, rfl, hc⟩ := (HX.out.ext HE.out).at_ ha
      obtain ⟨a2, ha2⟩ := getElem?_of_lt (l := y) (k := k) (by omega)
      obtain ⟨b2, off2, rfl, hc2⟩ := (HY.out.ext HE.out).at_ ha2
      obtain ⟨ax0, ax1⟩ := HBX.out k a ha
      obtain ⟨ay0, ay1⟩ := HBY.out k a2 ha2
      have HS : Hid (accZ x y (k + 1) = accZ x y k + a * a2) := Lib.hid (by simp [accZ, List.getD_eq_getElem?_getD, ha, ha2])
      clear ha ha2
      have hky : (k : Int) < (y.length : Int) := by omega
      by_cases ga : 0 ≤ a
      · by_cases gb : 0 ≤ a2
        · have hp := prod_bd (a := a) (b := a2) (by omega) (by omega) (by omega) (by omega)
          have hq := HQ.out
          have hs : ph * 18446744073709551616 + pl + a * a2 < 340282366920938463463374607431768211456 := by omega
          have HM := Lib.hid (wideAdd_int ph pl (a) (a2) (by omega) (by omega) (by omega) (by omega) (by omega) (by omega) (by omega) (by omega) hs)
          clear hp hq hs
          go_wp2_with fail
          refine (HM.out _).mono ?_
          rintro e w1 ⟨h', l', rfl, q0, q1, q2, q3, q4, he⟩
          have HE1 := Lib.hid (HE.out.trans he)
          have HO1 := Lib.hid (rowIs_ext HP.out he)
          have HO2 := Lib.hid (rowIs_ext HN.out he)
          have HQ4 := Lib.hid q4
          have s1 : w1.cell? ⟨w.heap.size, 0, none⟩ = some (.int .u64 ph) := HO1.out.cell (by omega)
          have s2 : w1.cell? ⟨w.heap.size, 1, none⟩ = some (.int .u64 pl) := HO1.out.cell (by omega)
          have s3 : w1.frozen? ⟨w.heap.size, 0, none⟩ = false := HO1.out.frozen 0
          have s4 : w1.frozen? ⟨w.heap.size, 1, none⟩ = false := HO1.out.frozen 1
          clear q4 he HP HN HE HM t1 t2 t3 t4 hc hc2
          go_wp2_with fail
          go_roundw
          case rel =>
            refine ⟨k + 1, h', l', nh, nl, by omega, by go_num, by omega, by omega, by omega, by omega, by omega, by omega, by omega, by omega, Lib.hid ?_, Lib.hid ?_, Lib.hid ((HE1.out.setCell (by show w.heap.size ≤ w.heap.size; omega) _).setCell (by show w.heap.size ≤ w.heap.size; omega) _), Lib.hid ⟨by rw [HS.out]; have := HQ.out.1; have := HQ4.out; omega, by have := HQ.out.2; have := HQ4.out; have := prod_bd (a := a) (b := a2) (by omega) (by omega) (by omega) (by omega); omega⟩⟩
            · exact ((HO1.out.set 0 _).set 1 _).congr (fun j hj => by match j, hj with | 0, _ => rfl | 1, _ => rfl)
            · exact (HO2.out.setOther (by show w.heap.size + 1 ≠ w.heap.size; omega) _).setOther (by show w.heap.size + 1 ≠ w.heap.size; omega) _
          case measure => simp [intOf]; omega
        · have hp := prod_bd (a := a) (b := -a2) (by omega) (by omega) (by omega) (by omega)
          have hq := HQ.out
          have hs : nh * 18446744073709551616 + nl + a * -a2 < 340282366920938463463374607431768211456 := by omega
          have HM := Lib.hid (wideAdd_int nh nl (a) (-a2) (by omega) (by omega) (by omega) (by omega) (by omega) (by omega) (by omega) (by omega) hs)
          clear hp hq hs
          go_wp2_with fail
          refine (HM.out _).mono ?_
          rintro e w1 ⟨h', l', rfl, q0, q1, q2, q3, q4, he⟩
          have HE1 := Lib.hid (HE.out.trans he)
          have HO1 := Lib.hid (rowIs_ext HN.out he)
          have HO2 := Lib.hid (rowIs_ext HP.out he)
          have HQ4 := Lib.hid q4
          have s1 : w1.cell? ⟨w.heap.size + 1, 0, none⟩ = some (.int .u64 nh) := HO1.out.cell (by omega)
          have s2 : w1.cell? ⟨w.heap.size + 1, 1, none⟩ = some (.int .u64 nl) := HO1.out.cell (by omega)
          have s3 : w1.frozen? ⟨w.heap.size + 1, 0, none⟩ = false := HO1.out.frozen 0
          have s4 : w1.frozen? ⟨w.heap.size + 1, 1, none⟩ = false := HO1.out.frozen 1
          clear q4 he HP HN HE HM t1 t2 t3 t4 hc hc2
          go_wp2_with fail
          go_roundw
          case rel =>
            refine ⟨k + 1, ph, pl, h', l', by omega, by go_num, by omega, by omega, by omega, by omega, by omega, by omega, by omega, by omega, Lib.hid ?_, Lib.hid ?_, Lib.hid ((HE1.out.setCell (by show w.heap.size ≤ w.heap.size + 1; omega) _).setCell (by show w.heap.size ≤ w.heap.size + 1; omega) _), Lib.hid ⟨by rw [HS.out]; have := HQ.out.1; have := HQ4.out; have e : a * a2 = -(a * -a2) := (by rw [Int.mul_neg, Int.neg_neg]); omega, by have := HQ.out.2; have := HQ4.out; have := prod_bd (a := a) (b := -a2) (by omega) (by omega) (by omega) (by omega); omega⟩⟩
            · exact (HO2.out.setOther (by show w.heap.size ≠ w.heap.size + 1; omega) _).setOther (by show w.heap.size ≠ w.heap.size + 1; omega) _
            · exact ((HO1.out.set 0 _).set 1 _).congr (fun j hj => by match j, hj with | 0, _ => rfl | 1, _ => rfl)
          case measure => simp [intOf]; omega
      · by_cases gb : 0 ≤ a2
        · have hp := prod_bd (a := -a) (b := a2) (by omega) (by omega) (by omega) (by omega)
          have hq := HQ.out
          have hs : nh * 18446744073709551616 + nl + -a * a2 < 340282366920938463463374607431768211456 := by omega
          have HM := Lib.hid (wideAdd_int nh nl (-a) (a2) (by omega) (by omega) (by omega) (by omega) (by omega) (by omega) (by omega) (by omega) hs)
          clear hp hq hs
          go_wp2_with fail
          refine (HM.out _).mono ?_
          rintro e w1 ⟨h', l', rfl, q0, q1, q2, q3, q4, he⟩
          have HE1 := Lib.hid (HE.out.trans he)
          have HO1 := Lib.hid (rowIs_ext HN.out he)
          have HO2 := Lib.hid (rowIs_ext HP.out he)
          have HQ4 := Lib.hid q4
          have s1 : w1.cell? ⟨w.heap.size + 1, 0, none⟩ = some (.int .u64 nh) := HO1.out.cell (by omega)
          have s2 : w1.cell? ⟨w.heap.size + 1, 1, none⟩ = some (.int .u64 nl) := HO1.out.cell (by omega)
          have s3 : w1.frozen? ⟨w.heap.size + 1, 0, none⟩ = false := HO1.out.frozen 0
          have s4 : w1.frozen? ⟨w.heap.size + 1, 1, none⟩ = false := HO1.out.frozen 1
          clear q4 he HP HN HE HM t1 t2 t3 t4 hc hc2
          go_wp2_with fail
          go_roundw
          case rel =>
            refine ⟨k + 1, ph, pl, h', l', by omega, by go_num, by omega, by omega, by omega, by omega, by omega, by omega, by omega, by omega, Lib.hid ?_, Lib.hid ?_, Lib.hid ((HE1.out.setCell (by show w.heap.size ≤ w.heap.size + 1; omega) _).setCell (by show w.heap.size ≤ w.heap.size + 1; omega) _), Lib.hid ⟨by rw [HS.out]; have := HQ.out.1; have := HQ4.out; have e : a * a2 = -(-a * a2) := (by rw [Int.neg_mul, Int.neg_neg]); omega, by have := HQ.out.2; have := HQ4.out; have := prod_bd (a := -a) (b := a2) (by omega) (by omega) (by omega) (by omega); omega⟩⟩
            · exact (HO2.out.setOther (by show w.heap.size ≠ w.heap.size + 1; omega) _).setOther (by show w.heap.size ≠ w.heap.size + 1; omega) _
            · exact ((HO1.out.set 0 _).set 1 _).congr (fun j hj => by match j, hj with | 0, _ => rfl | 1, _ => rfl)
          case measure => simp [intOf]; omega
        · have hp := prod_bd (a := -a) (b := -a2) (by omega) (by omega) (by omega) (by omega)
          have hq := HQ.out
          have hs : ph * 18446744073709551616 + pl + -a * -a2 < 340282366920938463463374607431768211456 := by omega
          have HM := Lib.hid (wideAdd_int ph pl (-a) (-a2) (by omega) (by omega) (by omega) (by omega) (by omega) (by omega) (by omega) (by omega) hs)
          clear hp hq hs
          go_wp2_with fail
          refine (HM.out _).mono ?_
          rintro e w1 ⟨h', l', rfl, q0, q1, q2, q3, q4, he⟩
          have HE1 := Lib.hid (HE.out.trans he)
          have HO1 := Lib.hid (rowIs_ext HP.out he)
          have HO2 := Lib.hid (rowIs_ext HN.out he)
          have HQ4 := Lib.hid q4
          have s1 : w1.cell? ⟨w.heap.size, 0, none⟩ = some (.int .u64 ph) := HO1.out.cell (by omega)
          have s2 : w1.cell? ⟨w.heap.size, 1, none⟩ = some (.int .u64 pl) := HO1.out.cell (by omega)
          have s3 : w1.frozen? ⟨w.heap.size, 0, none⟩ = false := HO1.out.frozen 0
          have s4 : w1.frozen? ⟨w.heap.size, 1, none⟩ = false := HO1.out.frozen 1
          clear q4 he HP HN HE HM t1 t2 t3 t4 hc hc2
          go_wp2_with fail
          go_roundw
          case rel =>
            refine ⟨k + 1, h', l', nh, nl, by omega, by go_num, by omega, by omega, by omega, by omega, by omega, by omega, by omega, by omega, Lib.hid ?_, Lib.hid ?_, Lib.hid ((HE1.out.setCell (by show w.heap.size ≤ w.heap.size; omega) _).setCell (by show w.heap.size ≤ w.heap.size; omega) _), Lib.hid ⟨by rw [HS.out]; have := HQ.out.1; have := HQ4.out; have e : a * a2 = -a * -a2 := (by rw [Int.neg_mul_neg]); omega, by have := HQ.out.2; have := HQ4.out; have := prod_bd (a := -a) (b := -a2) (by omega) (by omega) (by omega) (by omega); omega⟩⟩
            · exact ((HO1.out.set 0 _).set 1 _).congr (fun j hj => by match j, hj with | 0, _ => rfl | 1, _ => rfl)
            · exact (HO2.out.setOther (by show w.heap.size + 1 ≠ w.heap.size; omega) _).setOther (by show w.heap.size + 1 ≠ w.heap.size; omega) _
          case measure => simp [intOf]; omega
    · have hkl : k = x.length := by omega
      have HK : Hid (ph * 18446744073709551616 + pl - (nh * 18446744073709551616 + nl) = accZ x y x.length) := Lib.hid (by have := HQ.out.1; rw [hkl] at this; exact this)
      obtain ⟨D, hD⟩ : ∃ D, D = accZ x y x.length := ⟨_, rfl⟩
      have HM := Lib.hid (wideMinus_int ph pl nh nl p0 p1 p2 p3 n0 n1 n2 n3)
      have HM2 := Lib.hid (wideMinus_int nh nl ph pl n0 n1 n2 n3 p0 p1 p2 p3)
      have hK := HK.out
      rw [← hD] at hK
      have HDD := Lib.hid hD
      by_cases g1 : 0 ≤ D ∧ D ≤ 4611686018427387904
      · have e1 : wminusV (ph * 18446744073709551616 + pl).toNat (nh * 18446744073709551616 + nl).toNat = .tuple #[.int .i64 D, .bool true] := wminusV_some (by omega) (by omega)
        have HV : Hid (dotV D = .tuple #[.int .i64 D, .bool true]) := Lib.hid (if_pos (by omega))
        rw [e1] at HM
        clear hK hD e1 hkl HM2
        go_wp2_with fail
        refine (HM.out _).mono ?_
        rintro e w1 ⟨rfl, he⟩
        have HE1 := Lib.hid (HE.out.trans he)
        clear he
        go_wp2_with fail
        go_ret2
        exact ⟨by rw [← HDD.out, HV.out]; rfl, HE1.out⟩
      · have e1 : wminusV (ph * 18446744073709551616 + pl).toNat (nh * 18446744073709551616 + nl).toNat = .tuple #[.int .i64 0, .bool false] := wminusV_none (by omega)
        rw [e1] at HM
        by_cases g2 : -4611686018427387904 ≤ D ∧ D ≤ 0
        · have e2 : wminusV (nh * 18446744073709551616 + nl).toNat (ph * 18446744073709551616 + pl).toNat = .tuple #[.int .i64 (-D), .bool true] := wminusV_some (by omega) (by omega)
          have HV : Hid (dotV D = .tuple #[.int .i64 D, .bool true]) := Lib.hid (if_pos (by omega))
          have g3 := g2.1
          have g4 := g2.2
          rw [e2] at HM2
          clear hK hD e1 e2 hkl
          go_wp2_with fail
          refine (HM.out _).mono ?_
          rintro e w1 ⟨rfl, he⟩
          have HE1 := Lib.hid (HE.out.trans he)
          have s1 : w1.cell? ⟨w.heap.size, 0, none⟩ = some (.int .u64 ph) := he.cell t1
          have s2 : w1.cell? ⟨w.heap.size, 1, none⟩ = some (.int .u64 pl) := he.cell t2
          have s3 : w1.cell? ⟨w.heap.size + 1, 0, none⟩ = some (.int .u64 nh) := he.cell t3
          have s4 : w1.cell? ⟨w.heap.size + 1, 1, none⟩ = some (.int .u64 nl) := he.cell t4
          clear he t1 t2 t3 t4
          go_wp2_with fail
          refine (HM2.out _).mono ?_
          rintro e w2 ⟨rfl, he⟩
          have HE2 := Lib.hid (HE1.out.trans he)
          clear he s1 s2 s3 s4
          go_wp2_with fail
          go_ret2
          refine ⟨?_, HE2.out⟩
          rw [← HDD.out, HV.out]
          simp
        · have e2 : wminusV (nh * 18446744073709551616 + nl).toNat (ph * 18446744073709551616 + pl).toNat = .tuple #[.int .i64 0, .bool false] := wminusV_none (by omega)
          have HV : Hid (dotV D = .tuple #[.int .i64 0, .bool false]) := Lib.hid (if_neg (by omega))
          rw [e2] at HM2
          clear hK hD e1 e2 hkl g1 g2
          go_wp2_with fail
          refine (HM.out _).mono ?_
          rintro e w1 ⟨rfl, he⟩
          have HE1 := Lib.hid (HE.out.trans he)
          have s1 : w1.cell? ⟨w.heap.size, 0, none⟩ = some (.int .u64 ph) := he.cell t1
          have s2 : w1.cell? ⟨w.heap.size, 1, none⟩ = some (.int .u64 pl) := he.cell t2
          have s3 : w1.cell? ⟨w.heap.size + 1, 0, none⟩ = some (.int .u64 nh) := he.cell t3
          have s4 : w1.cell? ⟨w.heap.size + 1, 1, none⟩ = some (.int .u64 nl) := he.cell t4
          clear he t1 t2 t3 t4
          go_wp2_with fail
          refine (HM2.out _).mono ?_
          rintro e w2 ⟨rfl, he⟩
          have HE2 := Lib.hid (HE1.out.trans he)
          clear he s1 s2 s3 s4
          go_wp2_with fail
          go_ret2
          refine ⟨?_, HE2.out⟩
          rw [← HDD.out, HV.out]
          rfl

end Go.Proofs.YtennjcjjegbhgaaGreat

/-
  The walks of slices.Clone, slices.IndexFunc and vector.CanonicalSign.
-/
namespace Go.Proofs.YtennjcjjegbhgaaGreat
open Go.RowKit

theorem Tryz.inI64 : (Tryz.prog.info? 2).map (fun i => (i.zero, i.size, i.bytes)) = some (some (.int .i64 0), 1, 8) := by kernel_rfl

set_option maxHeartbeats 400000 in
theorem cloneI_any (A : Option Addr) (c : Nat) (x : List Int) (w : World) (hx : RdI .i64 w A x) (hl : x.length * 8 ≤ 140737488355328) :
    Calls Tryz.prog 87 #[.slice A x.length c] w fun e w' => ∃ v, e = .returned v ∧ w'.ownsRow w.heap.size 2 1 v x.length (x.map (Value.int .i64)) ∧ Ext w w' := by
  have hnil := fun (w : World) (n c : Nat) => Lib.run_eql_slice_nil (P := Tryz.prog) w 23 2 A n c 0 0 Tryz.underlying23
  cases A with
  | none =>
    have hx0 : x = [] := by
      cases x with
      | nil => rfl
      | cons a l => obtain ⟨_, _, h, _⟩ := hx (by simp); cases h
    subst hx0
    go_enter Tryz.func87, Tryz.ntmps87
    go_wp2_with fail
    go_ret
    exact ⟨_, rfl, World.ownsRow_nil _ _ _ _, Ext.refl _⟩
  | some a =>
    go_enter Tryz.func87, Tryz.ntmps87
    go_wp2_with (at_builtin; refine wpList_append_rd _ rfl (.tmp 5) (.tmp 6) _ rfl w.heap.size 2 (.int .i64 0) 1 8 Tryz.underlying23 Tryz.inI64 rfl (by omega) _ 0 [] rfl (World.ownsRow_made w #[] 0 (Nat.le_refl _) (Nat.zero_le _) rfl) (some a) x.length c _ rfl (Rd.ext hx ((Ext.refl _).alloc _)) (by simp) oneCell_ints (by simp only [maxLen]; omega) (by omega) (by simp) ?_; intro v1 w1 hown1 hg1 _)
    go_ret
    exact ⟨_, rfl, by simpa using hown1, grown_ext hg1 (World.ownsRow_made w #[] 0 (Nat.le_refl _) (Nat.zero_le _) rfl : World.ownsRow _ w.heap.size 2 1 _ 0 []) ((Ext.refl w).alloc _) (Nat.le_refl _)⟩

/-- The index of the first entry that is not 0; -1 if there is none. -/
def idxNZ (x : List Int) : Int := match x.findIdx? (fun c => c != 0) with | some i => i | none => -1
theorem idxNZ_at {x : List Int} {k : Nat} {a : Int} (h : ∀ j c, j < k → x[j]? = some c → c = 0) (hk : x[k]? = some a) (ha : (a != 0) = true) : idxNZ x = k := by
  unfold idxNZ
  have : x.findIdx? (fun c => c != 0) = some k := by
    rw [List.findIdx?_eq_some_iff_getElem]
    obtain ⟨hlt, rfl⟩ := List.getElem?_eq_some_iff.1 hk
    exact ⟨hlt, ha, fun j hj => by simp [h j x[j] hj (List.getElem?_eq_getElem (by omega))]⟩
  rw [this]
theorem idxNZ_none {x : List Int} {k : Nat} (h : ∀ j c, j < k → x[j]? = some c → c = 0) (hk : x.length ≤ k) : idxNZ x = -1 := by
  unfold idxNZ
  have : x.findIdx? (fun c => c != 0) = none := by
    rw [List.findIdx?_eq_none_iff]
    intro c hc
    obtain ⟨j, hj, rfl⟩ := List.getElem_of_mem hc
    simp [h j _ (by omega) (List.getElem?_eq_getElem hj)]
  rw [this]

theorem InB_bounds {x : List Int} (h : InB x = true) {k : Nat} {c : Int} (hk : x[k]? = some c) : -1099511627776 ≤ c ∧ c ≤ 1099511627776 := by
  unfold InB at h
  rw [List.all_eq_true] at h
  have := h c (List.mem_of_getElem? hk)
  simp at this
  exact this

theorem canon1_any (a : Int) (w : World) :
    Calls Tryz.prog 86 #[.int .i64 a] w fun e w' => e = .returned (.bool (a != 0)) ∧ w = w' := by
  go_enter Tryz.func86, Tryz.ntmps86
  go_wp2_with fail
  go_ret
  exact ⟨rfl, rfl⟩

set_option maxHeartbeats 400000 in
theorem indexFunc_any (A : Option Addr) (c : Nat) (x : List Int) (w : World) (hx : RdI .i64 w A x) (lx : x.length ≤ 9223372036854775807) :
    Calls Tryz.prog 85 #[.slice A x.length c, .func (Fn.func 86) #[] #[]] w fun e w' => e = .returned (.int .i64 (idxNZ x)) ∧ w = w' := by
  have HX := Lib.hid hx
  clear hx
  go_enter Tryz.func85, Tryz.ntmps85
  go_wp2_with fail
  go_loop [8, 5] (fun i _ => ∃ k : Nat, k ≤ x.length ∧ i = .int .i64 k ∧ Hid (∀ j c, j < k → x[j]? = some c → c = 0)) (fun i _ => x.length - (intOf i).toNat)
  case atStart => exact ⟨0, Nat.zero_le _, rfl, Lib.hid (fun j c h => by omega)⟩
  case round =>
    obtain ⟨k, hk, rfl, HR⟩ := hrel
    by_cases hlt : k < x.length
    · obtain ⟨a, ha⟩ := getElem?_of_lt hlt
      obtain ⟨b, off, rfl, hc⟩ := HX.out.at_ ha
      have HA := Lib.hid ha
      clear ha
      by_cases h0 : (a != 0) = true
      · go_wp2_with (go_at_call 86; refine (canon1_any _ _).mono ?_; rintro e w' ⟨rfl, rfl⟩)
        go_ret
        exact ⟨ret_int (idxNZ_at HR.out HA.out h0).symm, rfl⟩
      · have h0' : (a != 0) = false := by simpa using h0
        have H0 := Lib.hid h0'
        clear h0
        go_wp2_with (go_at_call 86; refine (canon1_any _ _).mono ?_; rintro e w' ⟨rfl, rfl⟩)
        go_round
        case rel => exact ⟨k + 1, by omega, by go_num, Lib.hid (upto_succ (P := fun c => c = 0) HR.out HA.out (by simpa using H0.out))⟩
        case measure => simp [intOf]; omega
    · go_wp2_with fail
      go_ret
      exact ⟨ret_int (idxNZ_none HR.out (by omega)).symm, rfl⟩

/-- What CanonicalSign gives: none for nil and false. -/
def canonS (x : List Int) : Option (List Int) :=
  if InB x then (match x.find? (fun c => c != 0) with
    | none => none
    | some c => some (if c < 0 then x.map (fun a => -a) else x)) else none

theorem idxNZ_cases (x : List Int) : (idxNZ x = -1 ∧ x.find? (fun c => c != 0) = none) ∨ ∃ (k : Nat) (a : Int), idxNZ x = k ∧ k < x.length ∧ x[k]? = some a ∧ x.find? (fun c => c != 0) = some a := by
  unfold idxNZ
  cases h : x.findIdx? (fun c => c != 0) with
  | none =>
    left
    refine ⟨rfl, ?_⟩
    rw [List.find?_eq_none]
    rw [List.findIdx?_eq_none_iff] at h
    intro c hc; simpa using h c hc
  | some k =>
    right
    rw [List.findIdx?_eq_some_iff_getElem] at h
    obtain ⟨hlt, h1, h2⟩ := h
    refine ⟨k, x[k], rfl, hlt, List.getElem?_eq_getElem hlt, ?_⟩
    rw [List.find?_eq_some_iff_getElem]
    exact ⟨h1, k, hlt, rfl, fun j hj => by simpa using h2 j hj⟩

def negF (x : List Int) (k : Nat) (f : Nat → Value) : Nat → Value := fun j => if j < k then .int .i64 (-(x.getD j 0)) else f j

def canonV (w0 w' : World) (r : Option (List Int)) (e : Ending) : Prop := match r with
  | none => e = .returned (.tuple #[.slice none 0 0, .bool false])
  | some z => ∃ A c, e = .returned (.tuple #[.slice A z.length c, .bool true]) ∧ z.length ≤ c ∧ RdI .i64 w' A z ∧ ∀ p, A = some p → w0.heap.size ≤ p.block ∧ p.block < w'.heap.size

set_option maxHeartbeats 1000000 in
theorem canonicalSign_any (A : Option Addr) (c : Nat) (x : List Int) (w : World) (hx : RdI .i64 w A x) (hl : x.length * 8 ≤ 140737488355328) :
    Calls Tryz.prog 46 #[.slice A x.length c] w fun e w' => canonV w w' (canonS x) e ∧ Ext w w' := by
  have HX := Lib.hid hx
  cases hI : InB x with
  | false =>
    have HF : Hid (canonS x = none) := Lib.hid (by simp [canonS, hI])
    go_enter Tryz.func46, Tryz.ntmps46
    go_wp2_with (go_at_call 83; refine (inRange_any A c x _ hx (by omega)).mono ?_; rintro e w' ⟨rfl, rfl⟩)
    go_ret2
    exact ⟨by rw [HF.out]; rfl, Ext.refl _⟩
  | true =>
    have HIB := Lib.hid hI
    rcases idxNZ_cases x with ⟨h1, h2⟩ | ⟨k, a, h1, hk, ha, h2⟩
    · have HF : Hid (canonS x = none) := Lib.hid (by simp [canonS, hI, h2])
      have HC := Lib.hid (indexFunc_any A c x w hx (by omega))
      rw [h1] at HC
      clear h1 h2
      go_enter Tryz.func46, Tryz.ntmps46
      go_wp2_with (go_at_call 83; refine (inRange_any A c x _ hx (by omega)).mono ?_; rintro e w' ⟨rfl, rfl⟩)
      refine HC.out.mono ?_
      rintro e w' ⟨rfl, rfl⟩
      go_wp2_with fail
      go_ret2
      exact ⟨by rw [HF.out]; rfl, Ext.refl _⟩
    · have HC := Lib.hid (indexFunc_any A c x w hx (by omega))
      rw [h1] at HC
      have HF : Hid (canonS x = some (if a < 0 then x.map (fun a => -a) else x)) := Lib.hid (by simp [canonS, hI, h2])
      obtain ⟨b, off, rfl, hc⟩ := hx.at_ ha
      clear h1 h2 ha
      go_enter Tryz.func46, Tryz.ntmps46
      go_wp2_with (go_at_call 83; refine (inRange_any _ c x _ hx (by omega)).mono ?_; rintro e w' ⟨rfl, rfl⟩)
      refine HC.out.mono ?_
      rintro e w' ⟨rfl, rfl⟩
      go_wp2_with fail
      refine (cloneI_any _ c x _ hx hl).mono ?_
      rintro e w1 ⟨v, rfl, hown, he⟩
      have hc1 := he.cell hc
      obtain ⟨g, cap, f, rfl, hcap, hg, hrow, hf⟩ := own_block hown (by omega)
      have HE := Lib.hid he
      have HROW := Lib.hid hrow
      have HFF := Lib.hid hf
      clear hown he hrow hf hx
      by_cases h0 : a < 0
      · go_wp2_with fail
        go_loopw [24, 6, 7] (fun i _ _ wr => ∃ l : Nat, l ≤ x.length ∧ i = .int .i64 l ∧ Hid (wr.rowIs g 2 cap (negF x l f)) ∧ Hid (Ext w wr)) (fun i _ _ _ => x.length - (intOf i).toNat)
        case atStart => exact ⟨0, Nat.zero_le _, rfl, Lib.hid (HROW.out.congr (fun j _ => by simp [negF])), HE⟩
        case round =>
          clear hc1 HROW HE
          obtain ⟨l, hl', rfl, HROW, HE⟩ := hrel
          by_cases hlt : l < x.length
          · obtain ⟨a2, ha2⟩ := getElem?_of_lt hlt
            obtain ⟨b2, off2, hbb, hc2⟩ := (HX.out.ext HE.out).at_ ha2
            cases hbb
            have hB := InB_bounds HIB.out ha2
            have t1 : wr.cell? ⟨g, l, none⟩ = some (f l) := by rw [HROW.out.cell (by omega)]; simp [negF]
            have t2 : wr.frozen? ⟨g, l, none⟩ = false := HROW.out.frozen l
            have hlc : (l : Int) < (cap : Int) := by omega
            have HA2 : Hid (x.getD l 0 = a2) := Lib.hid (by rw [List.getD_eq_getElem?_getD, ha2]; rfl)
            clear ha2
            have hB1 := hB.1
            have hB2 := hB.2
            go_wp2_with fail
            go_roundw
            case rel =>
              refine ⟨l + 1, by omega, by go_num, Lib.hid ((HROW.out.set l _).congr (fun j _ => ?_)), Lib.hid (HE.out.setCell hg _)⟩
              unfold negF
              by_cases e : j = l
              · subst e
                rw [if_pos rfl, if_pos (by omega), HA2.out]
              · rw [if_neg e]
                by_cases e2 : j < l
                · rw [if_pos e2, if_pos (by omega)]
                · rw [if_neg e2, if_neg (by omega)]
            case measure => simp [intOf]; omega
          · go_wp2_with fail
            go_ret2
            refine ⟨?_, HE.out⟩
            rw [HF.out, if_pos h0]
            refine ⟨some ⟨g, 0, none⟩, cap, by simp, by simpa using hcap, RdI.of_row HROW.out (by simpa using hcap) (fun i z hz => ?_), (by rintro p ⟨⟩; exact ⟨hg, HROW.out.lt⟩)⟩
            rw [List.getElem?_map] at hz
            cases hxi : x[i]? with
            | none => rw [hxi] at hz; cases hz
            | some a3 =>
              rw [hxi] at hz
              have hi : i < x.length := (List.getElem?_eq_some_iff.1 hxi).1
              unfold negF
              rw [if_pos (by omega), List.getD_eq_getElem?_getD, hxi]
              simp at hz
              simp [hz]
      · go_wp2_with fail
        go_ret2
        refine ⟨?_, HE.out⟩
        rw [HF.out, if_neg (by omega)]
        exact ⟨some ⟨g, 0, none⟩, cap, rfl, hcap, RdI.of_row HROW.out hcap (fun i z hz => HFF.out i _ (by simp [hz])), (by rintro p ⟨⟩; exact ⟨hg, HROW.out.lt⟩)⟩

end Go.Proofs.YtennjcjjegbhgaaGreat

/-
  Plain arithmetic: the products of a reduced form's rows and a vector do not overflow.
-/
namespace Go.Proofs.YtennjcjjegbhgaaGreat
open Go.RowKit

theorem mul_bd {a b A B : Int} (ha : -A ≤ a ∧ a ≤ A) (hb : -B ≤ b ∧ b ≤ B) (hB : 0 ≤ B) (hA : 0 ≤ A) : -(A * B) ≤ a * b ∧ a * b ≤ A * B := by
  have h1 : a.natAbs ≤ A.toNat := by omega
  have h2 : b.natAbs ≤ B.toNat := by omega
  have h3 : (a * b).natAbs ≤ A.toNat * B.toNat := by rw [Int.natAbs_mul]; exact Nat.mul_le_mul h1 h2
  have h4 : ((A.toNat * B.toNat : Nat) : Int) = A * B := by rw [Int.natCast_mul, Int.toNat_of_nonneg hA, Int.toNat_of_nonneg hB]
  omega

theorem getD_bd {x : List Int} {B : Int} (hB : 0 ≤ B) (h : ∀ (i : Nat) z, x[i]? = some z → -B ≤ z ∧ z ≤ B) (j : Nat) : -B ≤ x.getD j 0 ∧ x.getD j 0 ≤ B := by
  rw [List.getD_eq_getElem?_getD]
  cases hx : x[j]? with
  | none => simp; omega
  | some z => exact h j z hx

theorem accW_exact {row x : List Int} (hr : ∀ (i : Nat) z, row[i]? = some z → -262144 ≤ z ∧ z ≤ 262144) (hx : ∀ (i : Nat) z, x[i]? = some z → -1099511627776 ≤ z ∧ z ≤ 1099511627776) :
    ∀ l : Nat, l ≤ 8 → accW row x l = accZ row x l ∧ -(l * 288230376151711744) ≤ accZ row x l ∧ accZ row x l ≤ l * 288230376151711744
  | 0, _ => ⟨rfl, by simp [accZ], by simp [accZ]⟩
  | l + 1, hl => by
    obtain ⟨h1, h2, h3⟩ := accW_exact hr hx l (by omega)
    have hp := mul_bd (getD_bd (by omega) hr l) (getD_bd (by omega) hx l) (by omega) (by omega)
    have e : (262144 : Int) * 1099511627776 = 288230376151711744 := by decide
    rw [e] at hp
    have hw1 : wrap64 (row.getD l 0 * x.getD l 0) = row.getD l 0 * x.getD l 0 := IntWalk.wrap64_in _ ⟨by omega, by omega⟩
    have hw2 : wrap64 (accZ row x l + row.getD l 0 * x.getD l 0) = accZ row x l + row.getD l 0 * x.getD l 0 := IntWalk.wrap64_in _ ⟨by omega, by omega⟩
    refine ⟨?_, ?_, ?_⟩
    · show wrap64 (accW row x l + wrap64 (row.getD l 0 * x.getD l 0)) = accZ row x l + row.getD l 0 * x.getD l 0
      rw [hw1, h1, hw2]
    · show _ ≤ accZ row x l + row.getD l 0 * x.getD l 0
      omega
    · show accZ row x l + row.getD l 0 * x.getD l 0 ≤ _
      omega

theorem SmallP.row_len {rows : List (List Int)} (h : SmallP rows) {i : Nat} {r : List Int} (hi : rows[i]? = some r) : r.length = rows.length := (show Sq rows from h.2.2.1).at_ hi
theorem SmallP.row_bd {rows : List (List Int)} (h : SmallP rows) {i : Nat} {r : List Int} (hi : rows[i]? = some r) : ∀ (j : Nat) z, r[j]? = some z → -262144 ≤ z ∧ z ≤ 262144 := by
  intro j z hz
  have h1 := (List.getElem?_eq_some_iff.1 hi).1
  have h2 := (List.getElem?_eq_some_iff.1 hz).1
  rw [h.row_len hi] at h2
  have := h.2.2.2 i h1 j h2
  unfold SmallE at this
  rw [ent_of hi hz] at this
  omega

theorem applyM_bd {rows : List (List Int)} {x : List Int} (h : SmallP rows) (hx : InB x = true) : ∀ (i : Nat) z, (applyM rows x)[i]? = some z → -2305843009213693952 ≤ z ∧ z ≤ 2305843009213693952 := by
  intro i z hz
  obtain ⟨row, h1, rfl⟩ := applyM_at hz
  have hl := h.row_len h1
  have h8 := h.2.1
  obtain ⟨e, h2, h3⟩ := accW_exact (h.row_bd h1) (fun i z hz => InB_bounds hx hz) row.length (by omega)
  rw [e]
  have : ((row.length : Nat) : Int) ≤ 8 := by omega
  omega

theorem FitB_iff {n : Nat} {x : List Int} : FitB n x = true ↔ x.length = n ∧ InB x = true := by
  unfold FitB
  rw [Bool.and_eq_true, decide_eq_true_iff]
  exact ⟨fun h => ⟨by omega, h.2⟩, fun h => ⟨by omega, h.2⟩⟩
theorem isReducedM_small {rows : List (List Int)} (h : isReducedM rows = true) : SmallP rows := by
  unfold isReducedM at h
  simp at h
  exact h.1
theorem applyM_length (rows : List (List Int)) (x : List Int) : (applyM rows x).length = rows.length := by simp [applyM]

end Go.Proofs.YtennjcjjegbhgaaGreat
