/-
  Part 9 of a proof (walks and plain facts).
-/
import Derived.Test.YtobnpabndpmabaaGreatP07
set_option linter.all false
namespace Go.Proofs.YtobnpabndpmabaaGreat
open Go.RowKit
def dblL : List Nat → Nat → List Nat
  | [], b => [b]
  | x :: l, b => (2 * x + b) % 4294967296 :: dblL l (x / 2147483648)
theorem natV_dblL : ∀ (l : List Nat) (b : Nat), Lmb l → b ≤ 1 → natV (dblL l b) = 2 * natV l + b
  | [], b, _, _ => by simp [dblL, natV]
  | x :: l, b, hl, hb => by
    rw [lmb_cons] at hl
    have hx := hl.1
    simp only [dblL, natV, natV_dblL l (x / 2147483648) hl.2 (by omega)]; omega
theorem lmb_dblL : ∀ (l : List Nat) (b : Nat), Lmb l → b ≤ 1 → Lmb (dblL l b)
  | [], b, _, hb => by simp [dblL, Lmb]; omega
  | x :: l, b, hl, hb => by
    rw [lmb_cons] at hl
    have hx := hl.1
    rw [dblL, lmb_cons]
    exact ⟨Nat.mod_lt _ (by omega), lmb_dblL l _ hl.2 (by omega)⟩
theorem dblL_len : ∀ (l : List Nat) (b : Nat), (dblL l b).length = l.length + 1
  | [], b => rfl
  | x :: l, b => by simp [dblL, dblL_len l]
theorem or_low (a b n : Nat) (h : b < 2 ^ n) : (a * 2 ^ n) ||| b = a * 2 ^ n + b := by
  have := Nat.shiftLeft_add_eq_or_of_lt h a
  rw [Nat.shiftLeft_eq] at this
  exact this.symm
theorem or_high (a b n : Nat) (h : b < 2 ^ n) : b ||| (a * 2 ^ n) = a * 2 ^ n + b := by rw [Nat.or_comm, or_low a b n h]
theorem or32 (a b : Nat) (ha : a < 4294967296) (hb : b < 4294967296) : IntKind.u32.wrap (((BitVec.ofInt IntKind.u32.bits (a : Int) ||| BitVec.ofInt IntKind.u32.bits (b : Int)).toNat : Nat) : Int) = ((a ||| b : Nat) : Int) := by
  rw [w32]
  show (((BitVec.ofInt 32 (a : Int) ||| BitVec.ofInt 32 (b : Int)).toNat % 4294967296 : Nat) : Int) = _
  rw [BitVec.toNat_or]
  have e : ∀ x : Nat, x < 4294967296 → (BitVec.ofInt 32 (x : Int)).toNat = x := fun x hx => by rw [BitVec.toNat_ofInt]; show ((x : Int) % 4294967296).toNat = x; omega
  rw [e a ha, e b hb, Nat.mod_eq_of_lt]
  exact Nat.or_lt_two_pow (n := 32) ha hb
theorem or64 (a b : Nat) (ha : a < 18446744073709551616) (hb : b < 18446744073709551616) : IntKind.u64.wrap (((BitVec.ofInt IntKind.u64.bits (a : Int) ||| BitVec.ofInt IntKind.u64.bits (b : Int)).toNat : Nat) : Int) = ((a ||| b : Nat) : Int) := by
  rw [IntKind.wrap_u64]
  show ((BitVec.ofInt 64 (a : Int) ||| BitVec.ofInt 64 (b : Int)).toNat : Int) % _ = _
  rw [BitVec.toNat_or]
  have e : ∀ x : Nat, x < 18446744073709551616 → (BitVec.ofInt 64 (x : Int)).toNat = x := fun x hx => by rw [BitVec.toNat_ofInt]; show ((x : Int) % 18446744073709551616).toNat = x; omega
  rw [e a ha, e b hb]
  have := Nat.or_lt_two_pow (n := 64) ha hb
  generalize a ||| b = c at *
  omega
theorem and32 (a b : Nat) (ha : a < 4294967296) (hb : b < 4294967296) : IntKind.u32.wrap (((BitVec.ofInt IntKind.u32.bits (a : Int) &&& BitVec.ofInt IntKind.u32.bits (b : Int)).toNat : Nat) : Int) = ((a &&& b : Nat) : Int) := by
  rw [w32]
  show (((BitVec.ofInt 32 (a : Int) &&& BitVec.ofInt 32 (b : Int)).toNat % 4294967296 : Nat) : Int) = _
  rw [BitVec.toNat_and]
  have e : ∀ x : Nat, x < 4294967296 → (BitVec.ofInt 32 (x : Int)).toNat = x := fun x hx => by rw [BitVec.toNat_ofInt]; show ((x : Int) % 4294967296).toNat = x; omega
  rw [e a ha, e b hb, Nat.mod_eq_of_lt]
  exact Nat.lt_of_le_of_lt Nat.and_le_left ha
structure DblG (l : List Nat) (b : Nat) where
  i : Nat
  o : List Nat
  c : Nat
  hi : i ≤ l.length
  hc : c ≤ 1
  ho : o.length = i
  h : o ++ dblL (l.drop i) c = dblL l b
set_option maxRecDepth 100000 in
set_option maxHeartbeats 2000000 in
theorem double_C (l : List Nat) (b : Nat) (lm : Lmb l) (hb : b ≤ 1) (bl : l.length ≤ 1073741824) : CallC Tryz.prog 184 [slU l, .raw (.int .u32 (b : Int))] ⟨[], slU (dblL l b)⟩ := by
  refine callC_of Tryz.func184 rfl (by kernel_rfl) ?_; rw [Tryz.ntmps184]
  (refine WpA_sreg [] [] (by simp) fun K hK => ?_; simp (disch := omega) only [kc, prep1, slU, Nat.reduceAdd, List.replicate, ofConst, Value.oneCell']; (with_reducible refine hK _ ?_))
  (refine WpA_sreg [] [] (by simp) fun K hK => ?_; simp (disch := omega) only [kc, prep1, ofConst, Value.oneCell']; (with_reducible refine hK _ ?_))
  (refine WpA_seq (WpA_sreg [] [] (by simp) fun K hK => ?_); simp (disch := omega) only [kc, prep1, Nat.reduceAdd, opS_len, effR, ty_slice77, ls_len, ofConst, Value.oneCell']; (with_reducible refine hK _ ?_))
  refine WpA_forb (G := DblG l b) (fun g => ⟨[slU l, .raw (.int .u32 (g.c : Int)), jk, jk, .raw (.slice none 0 0), .one (.sl 20 0 0 g.o.length), jk, jk, slU l, .raw (.int .i64 (l.length : Int)), .raw (.int .i64 (g.i : Int)), jk, jk, jk, jk, jk, jk, jk, jk, jk, jk, jk, jk, jk, jk, jk, jk, jk], Hm [(20, [⟨154, 1, lc fU g.o⟩])]⟩) (fun g => l.length - g.i) ⟨0, [], b, by omega, hb, rfl, rfl⟩ ?_ ?_
  · refine (Weak_nil (k := 5) (d := 20) 154 1 (by omega) rfl rfl).trans (Weak_sub ⟨rfl, trivial⟩ ?_)
    simp [wkL, okTV, okAV]
  · rintro ⟨i, o, c, hi, hc, ho, h⟩
    simp only
    by_cases hm : i < l.length
    · obtain ⟨a, ha⟩ := getElem?_of_lt hm
      have ha' := lmb_at lm ha
      have e1 : IntKind.u32.wrap ((a : Int) * 2 ^ min 1 IntKind.u32.bits) = ((2 * a % 4294967296 : Nat) : Int) := by
        rw [← w32]; congr 1; show (a : Int) * 2 = _; omega
      have e2 := or32 (2 * a % 4294967296) c (by omega) (by omega)
      have e3 : (2 * a % 4294967296) ||| c = (2 * a + c) % 4294967296 := by
        have := or_low (a % 2147483648) c 1 (by omega)
        rw [show 2 * a % 4294967296 = a % 2147483648 * 2 ^ 1 by omega, this]; omega
      rw [e3] at e2
      have e4 : Int.fdiv (a : Int) (2 ^ (min 31 IntKind.u32.bits)) = ((a / 2147483648 : Nat) : Int) := by
        show Int.fdiv (a : Int) 2147483648 = _
        rw [Int.fdiv_eq_ediv_of_nonneg _ (by omega)]; omega
      (refine WpA_sreg [] [] (by simp) fun K hK => ?_; simp (disch := omega) only [kc, prep1, slU, Hm, effM, evBin, decT]; (with_reducible refine hK _ ?_))
      refine WpA_seq (WpA_cond rfl (fun _ => WpA_skip ?_) (fun h => by simp at h <;> omega))
      refine WpA_seq (WpA_block ?_)
      (refine WpA_sreg [] [] (by simp) fun K hK => ?_; simp (disch := omega) only [kc, prep1, Nat.reduceAdd, opS_indexAddr, effR, natOf_pos, ty_slice77, ls_get, ha, fU, ty_sz154, packT, ty_agg154]; (with_reducible refine hK _ ?_))
      (refine WpA_sreg [] [] (by simp) fun K hK => ?_; simp (disch := omega) only [kc, prep1, Nat.reduceAdd, effM, ofConst, Value.oneCell', evBin, Int.reduceLE, Int.reduceToNat, e1, e2, opS_buildSlice, newS, effA, ty_slice77, ty_zero154, ty_sz154, litA, cellsOf, isPure, Nat.reduceMul, Nat.reduceLeDiff, List.contains_nil, unP, ifT, opS_append, appS, effD, newsOf, ty_by154, lc_allp, lc_len, allcons, allnil, and_true, killO, lc_kill, lcU_snoc, wrS, killTV, killAV]; (with_reducible refine hK _ ?_))
      ((refine WpA_lreg [] [] (by simp) fun K hK => ?_); simp (disch := omega) only [kc, prep1, Nat.reduceAdd, effM, ofConst, Value.oneCell', evBin, Int.reduceLE, Int.reduceToNat, e4]; (with_reducible refine hK _ ?_))
      show WpA _ _ _ _
      ((refine WpA_lreg [] [] (by simp) fun K hK => ?_); simp (disch := omega) only [kc, prep1, effM, ofConst, Value.oneCell', evBin, wrapI]; (with_reducible refine hK _ ?_))
      refine ⟨⟨i + 1, o ++ [(2 * a + c) % 4294967296], a / 2147483648, by omega, by omega, by simp [ho], ?_⟩, by simp only; omega, Weak_sub ⟨rfl, trivial⟩ ?_⟩
      · rw [← h, drop_at ha, dblL, List.append_assoc]; rfl
      · simp [wkL, okTV, okAV]
    · (refine WpA_sreg [] [] (by simp) fun K hK => ?_; simp (disch := omega) only [kc, prep1, slU, Hm, effM, evBin, decF]; (with_reducible refine hK _ ?_))
      refine WpA_seq (WpA_cond rfl (fun h => by simp at h <;> omega) (fun _ => WpA_exit ?_))
      show WpA _ _ _ _
      (refine WpA_sreg [] [] (by simp) fun K hK => ?_; simp (disch := omega) only [kc, prep1, Nat.reduceAdd, opS_buildSlice, newS, effA, ty_slice77, ty_zero154, ty_sz154, litA, cellsOf, isPure, Nat.reduceMul, Nat.reduceLeDiff, List.contains_nil, unP, ifT, opS_append, appS, effD, newsOf, ty_by154, lc_allp, lc_len, allcons, allnil, and_true, killO, lc_kill, lcU_snoc, wrS, killTV, killAV]; (with_reducible refine hK _ ?_))
      have hfin : dblL l b = o ++ [c] := by rw [← h, drop_out (by omega : l.length ≤ i), dblL]
      (refine WpA_ret ⟨.inr rfl, ret_fz 20 (fzOk_one rfl) ?_ rfl⟩; simp (disch := omega) only [kc, resA, Tryz.results184, resOne, fzTV, fzAV, updH, ifT, lc_take, lc_cellF, slU])
      simp only [hfin]
      rw [List.take_of_length_le (by simp)]
structure LowG (l : List Nat) where
  i : Nat
  u : Nat
  hi : i ≤ l.length ∧ i ≤ 2
  hu : u = natV (l.take i)
theorem natV_lt_len' {l : List Nat} (h : Lmb l) (k : Nat) : natV (l.take k) < 4294967296 ^ k := by
  have h1 : Lmb (l.take k) := fun a ha => h a (List.mem_of_mem_take ha)
  have h2 := natV_lt h1
  exact Nat.lt_of_lt_of_le h2 (Nat.pow_le_pow_right (by omega) (by rw [List.length_take]; omega))
set_option maxRecDepth 100000 in
set_option maxHeartbeats 2000000 in
theorem low_C (l : List Nat) (lm : Lmb l) (bl : l.length ≤ 1073741824) : CallC Tryz.prog 137 [slU l] ⟨[], .raw (.int .u64 (natV (l.take 2) : Nat))⟩ := by
  refine callC_of Tryz.func137 rfl (by kernel_rfl) ?_; rw [Tryz.ntmps137]
  (refine WpA_sreg [] [] (by simp) fun K hK => ?_; simp (disch := omega) only [kc, prep1, slU, List.replicate, ofConst, Value.oneCell']; (with_reducible refine hK _ ?_))
  (refine WpA_sreg [] [] (by simp) fun K hK => ?_; simp (disch := omega) only [kc, prep1, ofConst, Value.oneCell']; (with_reducible refine hK _ ?_))
  (refine WpA_seq (WpA_sreg [] [] (by simp) fun K hK => ?_); simp (disch := omega) only [kc, prep1, ofConst, Value.oneCell']; (with_reducible refine hK _ ?_))
  refine WpA_forb (G := LowG l) (fun g => ⟨[slU l, jk, .raw (.int .u64 0), .raw (.int .u64 (g.u : Int)), .raw (.int .i64 (g.i : Int)), jk, jk, jk, jk, jk, jk, jk, jk, jk, jk, jk, jk, jk, jk, jk, jk, jk, jk, jk, jk, jk], Hm []⟩) (fun g => l.length - g.i) ⟨0, 0, ⟨by omega, by omega⟩, rfl⟩ ?_ ?_
  · refine Weak_sub trivial ?_
    simp [wkL, okTV, okAV]
  · rintro ⟨i, u, hi, hu⟩
    simp only
    have hlt := natV_lt_len' lm i
    rw [← hu] at hlt
    by_cases hm : i < l.length ∧ i < 2
    · obtain ⟨a, ha⟩ := getElem?_of_lt hm.1
      have ha' := lmb_at lm ha
      have hm2 := hm.2
      have hm1 := hm.1
      have hu2 := natV_take_succ ha
      rw [← hu] at hu2
      (refine WpA_seq (WpA_sreg [] [] (by simp) fun K hK => ?_); simp (disch := omega) only [kc, prep1, Nat.reduceAdd, slU, Hm, opS_len, effR, ty_slice77, ls_len, effM, evBin, decT, stS_guard, ofConst, Value.oneCell', ifT, opS_pick]; (with_reducible refine hK _ ?_))
      refine WpA_cond rfl (fun _ => WpA_skip ?_) (fun h => by simp at h <;> omega)
      refine WpA_seq (WpA_block ?_)
      have hi2 : i = 0 ∨ i = 1 := by omega
      rcases hi2 with rfl | rfl
      · have e1 : IntKind.u64.wrap ((a : Int) * 2 ^ min (32 * ((0 : Nat) : Int)).toNat IntKind.u64.bits) = (a : Int) := by
          rw [IntKind.wrap_u64]; show ((a : Int) * 1) % _ = _; omega
        have hu0 : u = 0 := by simpa [natV] using hu
        have e2 := or64 u a (by omega) (by omega)
        rw [hu0, Nat.zero_or, ← hu0] at e2
        ((refine WpA_lreg [] [] (by simp) fun K hK => ?_); simp (disch := omega) only [kc, prep1, Nat.reduceAdd, opS_indexAddr, effR, natOf_pos, ty_slice77, ls_get, ha, fU, ty_sz154, packT, ty_agg154, opS_conv, effM, Tryz.underlying154, ty_int35, wrapU, ofConst, Value.oneCell', evBin, wrapI, e1, ifT, e2]; (with_reducible refine hK _ ?_))
        show WpA _ _ _ _
        ((refine WpA_lreg [] [] (by simp) fun K hK => ?_); simp (disch := omega) only [kc, prep1, Nat.reduceAdd, effM, ofConst, Value.oneCell', evBin, wrapI]; (with_reducible refine hK _ ?_))
        refine ⟨⟨1, a, ⟨by omega, by omega⟩, by rw [hu2, hu0]; simp⟩, by simp only; omega, Weak_sub trivial ?_⟩
        simp [wkL, okTV, okAV]
      · have e1 : IntKind.u64.wrap ((a : Int) * 2 ^ min (32 * ((1 : Nat) : Int)).toNat IntKind.u64.bits) = ((a * 4294967296 : Nat) : Int) := by
          rw [IntKind.wrap_u64]; show ((a : Int) * 4294967296) % _ = _; omega
        simp only [Nat.pow_one] at hlt
        have e2 := or64 u (a * 4294967296) (by omega) (by omega)
        rw [show a * 4294967296 = a * 2 ^ 32 from rfl, or_high _ _ _ hlt, show a * 2 ^ 32 = a * 4294967296 from rfl] at e2
        ((refine WpA_lreg [] [] (by simp) fun K hK => ?_); simp (disch := omega) only [kc, prep1, Nat.reduceAdd, opS_indexAddr, effR, natOf_pos, ty_slice77, ls_get, ha, fU, ty_sz154, packT, ty_agg154, opS_conv, effM, Tryz.underlying154, ty_int35, wrapU, ofConst, Value.oneCell', evBin, wrapI, e1, ifT, e2]; (with_reducible refine hK _ ?_))
        show WpA _ _ _ _
        ((refine WpA_lreg [] [] (by simp) fun K hK => ?_); simp (disch := omega) only [kc, prep1, Nat.reduceAdd, effM, ofConst, Value.oneCell', evBin, wrapI]; (with_reducible refine hK _ ?_))
        refine ⟨⟨2, a * 4294967296 + u, ⟨by omega, by omega⟩, by rw [hu2]; omega⟩, by simp only; omega, Weak_sub trivial ?_⟩
        simp [wkL, okTV, okAV]
    · have hfin : u = natV (l.take 2) := by
        rw [hu]
        by_cases h2 : i = 2
        · rw [h2]
        · rw [List.take_of_length_le (by omega), List.take_of_length_le (by omega)]
      rw [← hfin]
      by_cases h3 : i < l.length
      · (refine WpA_seq (WpA_sreg [] [] (by simp) fun K hK => ?_); simp (disch := omega) only [kc, prep1, Nat.reduceAdd, slU, Hm, opS_len, effR, ty_slice77, ls_len, effM, evBin, decT, stS_guard, ofConst, Value.oneCell', ifT, decF, opS_pick]; (with_reducible refine hK _ ?_))
        refine WpA_cond rfl (fun h => by simp at h <;> omega) (fun _ => WpA_exit ?_)
        show WpA _ _ _ _
        (refine WpA_sreg [] [] (by simp) fun K hK => ?_; simp (disch := omega) only [kc, prep1]; (with_reducible refine hK _ ?_))
        (refine WpA_ret ⟨.inr rfl, ret_now rfl ?_ rfl⟩; simp (disch := omega) only [resA, Tryz.results137, resOne, List.getElem?_cons_succ, List.getElem?_cons_zero])
      · (refine WpA_seq (WpA_sreg [] [] (by simp) fun K hK => ?_); simp (disch := omega) only [kc, prep1, Nat.reduceAdd, slU, Hm, opS_len, effR, ty_slice77, ls_len, effM, evBin, decF, stS_guard, ofConst, Value.oneCell', Option.map_none, opS_pick]; (with_reducible refine hK _ ?_))
        refine WpA_cond rfl (fun h => by simp at h <;> omega) (fun _ => WpA_exit ?_)
        show WpA _ _ _ _
        (refine WpA_sreg [] [] (by simp) fun K hK => ?_; simp (disch := omega) only [kc, prep1]; (with_reducible refine hK _ ?_))
        (refine WpA_ret ⟨.inr rfl, ret_now rfl ?_ rfl⟩; simp (disch := omega) only [resA, Tryz.results137, resOne, List.getElem?_cons_succ, List.getElem?_cons_zero])
end Go.Proofs.YtobnpabndpmabaaGreat
namespace Go.Proofs.YtobnpabndpmabaaGreat
open Go.RowKit
def i64R (z : Int) : TV := if -9223372036854775808 ≤ z ∧ z ≤ 9223372036854775807 then .tup [(false, [.p (.raw (.int .i64 z))]), (false, [.p (.raw (.bool true))])] else .tup [(false, [.p (.raw (.int .i64 0))]), (false, [.p (.raw (.bool false))])]
theorem limbs_long {n : Nat} (h : 2 < (limbs n).length) : 18446744073709551616 ≤ n := by
  have h1 := can_ge (can_limbs n) (by intro h0; rw [h0] at h; simp at h)
  rw [natV_limbs] at h1
  have h2 : 4294967296 ^ 2 ≤ 4294967296 ^ ((limbs n).length - 1) := Nat.pow_le_pow_right (by omega) (by omega)
  omega
theorem limbs_short {n : Nat} (h : (limbs n).length ≤ 2) : n < 18446744073709551616 := by
  have h1 := natV_lt (lmb_limbs n)
  rw [natV_limbs] at h1
  have h2 : 4294967296 ^ (limbs n).length ≤ 4294967296 ^ 2 := Nat.pow_le_pow_right (by omega) h
  omega
set_option maxRecDepth 100000 in
set_option maxHeartbeats 2000000 in
theorem Int64_C (z : Int) (h : Bg z) : CallC Tryz.prog 96 [tZ z] ⟨[], i64R z⟩ := by
  have ht := trim_C (limbs z.natAbs) h.len
  rw [trim_id] at ht
  have hw := low_C (limbs z.natAbs) (lmb_limbs _) h.len
  have hl := h.len
  by_cases h2 : 2 < (limbs z.natAbs).length
  · have hb := limbs_long h2
    rw [show i64R z = .tup [(false, [.p (.raw (.int .i64 0))]), (false, [.p (.raw (.bool false))])] by unfold i64R; rw [if_neg (by omega)]]
    refine callC_of Tryz.func96 rfl (by kernel_rfl) ?_; rw [Tryz.ntmps96]
    (refine WpA_sreg [] [] (by simp) fun K hK => ?_; simp (disch := omega) only [kc, prep1, Nat.reduceAdd, tZ, List.replicate, opS_box, newS, effA, cellsOf, isPure, ifT, ofConst, Value.oneCell']; (with_reducible refine hK _ ?_))
    (refine WpA_sreg [⟨2, _, _, _, ht⟩] [] (by simp) fun K hK => ?_; simp (disch := omega) only [kc, slU, CItem.a, prep1, Nat.reduceAdd, opS_fieldAddr, effR, ty_fld79_1, ty_sz77, updH, packT, ty_agg77, opS_call, newS, effA, List.find?_cons, evAll, norm, CallRes.plain, rawTV, rawAV, normOk, noRefTV, noRefAV, renTV, renAV]; (with_reducible refine hK _ ?_))
    (refine WpA_sreg [⟨1, _, _, _, hw⟩] [] (by simp) fun K hK => ?_; simp (disch := omega) only [kc, slU, CItem.a, prep1, Nat.reduceAdd, opS_call, newS, effA, List.find?_cons, evAll, norm, CallRes.plain, rawTV, rawAV, normOk, noRefTV, noRefAV, renTV, renAV]; (with_reducible refine hK _ ?_))
    refine WpA_seq (WpA_block ?_)
    (refine WpA_sreg [] [] (by simp) fun K hK => ?_; simp (disch := omega) only [kc, prep1, Nat.reduceAdd, opS_len, effR, ty_slice77, ls_len, effM, ofConst, Value.oneCell', evBin, decT]; (with_reducible refine hK _ ?_))
    refine WpA_cond rfl (fun _ => ?_) (fun h => by simp at h <;> omega)
    (refine WpA_sreg [] [] (by simp) fun K hK => ?_; simp (disch := omega) only [kc, prep1, ofConst, Value.oneCell']; (with_reducible refine hK _ ?_))
    (refine WpA_ret ⟨.inr rfl, ret_now rfl ?_ rfl⟩; simp (disch := omega) only [resA, Tryz.results96, resL, resOne, List.getElem?_cons_succ, List.getElem?_cons_zero, Option.bind_some, tvPair, Option.map_some])
  · have hb := limbs_short (n := z.natAbs) (by omega)
    rw [List.take_of_length_le (by omega), natV_limbs] at hw
    by_cases hz : z < 0
    · have e1 : IntKind.i64.wrap (IntKind.u64.wrap (0 - (z.natAbs : Int))) = z ∨ 9223372036854775808 < z.natAbs := by
        rw [IntKind.wrap_u64]
        by_cases hz2 : z.natAbs ≤ 9223372036854775808
        · left
          have : (0 - (z.natAbs : Int)) % 18446744073709551616 = 18446744073709551616 + z := by omega
          rw [this, IntKind.wrap_i64]
          omega
        · right; omega
      by_cases hz2 : z.natAbs ≤ 9223372036854775808
      · replace e1 := e1.resolve_right (by omega)
        rw [show i64R z = .tup [(false, [.p (.raw (.int .i64 z))]), (false, [.p (.raw (.bool true))])] by unfold i64R; rw [if_pos (by omega)]]
        refine callC_of Tryz.func96 rfl (by kernel_rfl) ?_; rw [Tryz.ntmps96]
        (refine WpA_sreg [] [] (by simp) fun K hK => ?_; simp (disch := omega) only [kc, prep1, Nat.reduceAdd, tZ, decT, List.replicate, opS_box, newS, effA, cellsOf, isPure, ifT, ofConst, Value.oneCell']; (with_reducible refine hK _ ?_))
        (refine WpA_sreg [⟨2, _, _, _, ht⟩] [] (by simp) fun K hK => ?_; simp (disch := omega) only [kc, slU, CItem.a, prep1, Nat.reduceAdd, opS_fieldAddr, effR, ty_fld79_1, ty_sz77, updH, packT, ty_agg77, opS_call, newS, effA, List.find?_cons, evAll, norm, CallRes.plain, rawTV, rawAV, normOk, noRefTV, noRefAV, renTV, renAV]; (with_reducible refine hK _ ?_))
        (refine WpA_sreg [⟨1, _, _, _, hw⟩] [] (by simp) fun K hK => ?_; simp (disch := omega) only [kc, slU, CItem.a, prep1, Nat.reduceAdd, opS_call, newS, effA, List.find?_cons, evAll, norm, CallRes.plain, rawTV, rawAV, normOk, noRefTV, noRefAV, renTV, renAV]; (with_reducible refine hK _ ?_))
        refine WpA_seq (WpA_block ?_)
        (refine WpA_sreg [] [] (by simp) fun K hK => ?_; simp (disch := omega) only [kc, prep1, Nat.reduceAdd, opS_len, effR, ty_slice77, ls_len, effM, ofConst, Value.oneCell', evBin, decF]; (with_reducible refine hK _ ?_))
        refine WpA_cond rfl (fun h => by simp at h <;> omega) (fun _ => ?_)
        (refine WpA_sreg [] [] (by simp) fun K hK => ?_; simp (disch := omega) only [kc, prep1, Nat.reduceAdd, opS_fieldAddr, effR, ty_fld79_0, ty_sz4, Nat.add_zero, updH, packT, ty_agg4, stS_guard, effM, ofConst, Value.oneCell', ifT, evBin, decT, opS_pick]; (with_reducible refine hK _ ?_))
        refine WpA_cond rfl (fun _ => ?_) (fun h => by simp at h <;> omega)
        (refine WpA_sreg [] [] (by simp) fun K hK => ?_; simp (disch := omega) only [kc, prep1, Nat.reduceAdd, opS_un, effM, evUn, opS_conv, Tryz.underlying35, ty_int2, e1, ofConst, Value.oneCell']; (with_reducible refine hK _ ?_))
        (refine WpA_ret ⟨.inr rfl, ret_now rfl ?_ rfl⟩; simp (disch := omega) only [resA, Tryz.results96, resL, resOne, List.getElem?_cons_succ, List.getElem?_cons_zero, Option.bind_some, tvPair, Option.map_some])
      · rw [show i64R z = .tup [(false, [.p (.raw (.int .i64 0))]), (false, [.p (.raw (.bool false))])] by unfold i64R; rw [if_neg (by omega)]]
        refine callC_of Tryz.func96 rfl (by kernel_rfl) ?_; rw [Tryz.ntmps96]
        (refine WpA_sreg [] [] (by simp) fun K hK => ?_; simp (disch := omega) only [kc, prep1, Nat.reduceAdd, tZ, decT, List.replicate, opS_box, newS, effA, cellsOf, isPure, ifT, ofConst, Value.oneCell']; (with_reducible refine hK _ ?_))
        (refine WpA_sreg [⟨2, _, _, _, ht⟩] [] (by simp) fun K hK => ?_; simp (disch := omega) only [kc, slU, CItem.a, prep1, Nat.reduceAdd, opS_fieldAddr, effR, ty_fld79_1, ty_sz77, updH, packT, ty_agg77, opS_call, newS, effA, List.find?_cons, evAll, norm, CallRes.plain, rawTV, rawAV, normOk, noRefTV, noRefAV, renTV, renAV]; (with_reducible refine hK _ ?_))
        (refine WpA_sreg [⟨1, _, _, _, hw⟩] [] (by simp) fun K hK => ?_; simp (disch := omega) only [kc, slU, CItem.a, prep1, Nat.reduceAdd, opS_call, newS, effA, List.find?_cons, evAll, norm, CallRes.plain, rawTV, rawAV, normOk, noRefTV, noRefAV, renTV, renAV]; (with_reducible refine hK _ ?_))
        refine WpA_seq (WpA_block ?_)
        (refine WpA_sreg [] [] (by simp) fun K hK => ?_; simp (disch := omega) only [kc, prep1, Nat.reduceAdd, opS_len, effR, ty_slice77, ls_len, effM, ofConst, Value.oneCell', evBin, decF]; (with_reducible refine hK _ ?_))
        refine WpA_cond rfl (fun h => by simp at h <;> omega) (fun _ => ?_)
        (refine WpA_sreg [] [] (by simp) fun K hK => ?_; simp (disch := omega) only [kc, prep1, Nat.reduceAdd, opS_fieldAddr, effR, ty_fld79_0, ty_sz4, Nat.add_zero, updH, packT, ty_agg4, stS_guard, effM, ofConst, Value.oneCell', ifT, evBin, decF, opS_pick]; (with_reducible refine hK _ ?_))
        refine WpA_cond rfl (fun h => by simp at h <;> omega) (fun _ => ?_)
        (refine WpA_sreg [] [] (by simp) fun K hK => ?_; simp (disch := omega) only [kc, prep1, Nat.reduceAdd, opS_fieldAddr, effR, ty_fld79_0, ty_sz4, Nat.add_zero, updH, packT, ty_agg4, opS_un, effM, evUn, stS_guard, ofConst, Value.oneCell', Option.map_none, opS_pick]; (with_reducible refine hK _ ?_))
        refine WpA_cond rfl (fun h => by simp at h <;> omega) (fun _ => WpA_skip ?_)
        show WpA _ _ _ _
        (refine WpA_sreg [] [] (by simp) fun K hK => ?_; simp (disch := omega) only [kc, prep1, ofConst, Value.oneCell']; (with_reducible refine hK _ ?_))
        (refine WpA_ret ⟨.inr rfl, ret_now rfl ?_ rfl⟩; simp (disch := omega) only [resA, Tryz.results96, resL, resOne, List.getElem?_cons_succ, List.getElem?_cons_zero, Option.bind_some, tvPair, Option.map_some])
    · by_cases hz2 : z.natAbs < 9223372036854775808
      · have e1 : IntKind.i64.wrap (z.natAbs : Int) = z := by rw [IntKind.wrap_i64]; omega
        rw [show i64R z = .tup [(false, [.p (.raw (.int .i64 z))]), (false, [.p (.raw (.bool true))])] by unfold i64R; rw [if_pos (by omega)]]
        refine callC_of Tryz.func96 rfl (by kernel_rfl) ?_; rw [Tryz.ntmps96]
        (refine WpA_sreg [] [] (by simp) fun K hK => ?_; simp (disch := omega) only [kc, prep1, Nat.reduceAdd, tZ, decF, List.replicate, opS_box, newS, effA, cellsOf, isPure, ifT, ofConst, Value.oneCell']; (with_reducible refine hK _ ?_))
        (refine WpA_sreg [⟨2, _, _, _, ht⟩] [] (by simp) fun K hK => ?_; simp (disch := omega) only [kc, slU, CItem.a, prep1, Nat.reduceAdd, opS_fieldAddr, effR, ty_fld79_1, ty_sz77, updH, packT, ty_agg77, opS_call, newS, effA, List.find?_cons, evAll, norm, CallRes.plain, rawTV, rawAV, normOk, noRefTV, noRefAV, renTV, renAV]; (with_reducible refine hK _ ?_))
        (refine WpA_sreg [⟨1, _, _, _, hw⟩] [] (by simp) fun K hK => ?_; simp (disch := omega) only [kc, slU, CItem.a, prep1, Nat.reduceAdd, opS_call, newS, effA, List.find?_cons, evAll, norm, CallRes.plain, rawTV, rawAV, normOk, noRefTV, noRefAV, renTV, renAV]; (with_reducible refine hK _ ?_))
        refine WpA_seq (WpA_block ?_)
        (refine WpA_sreg [] [] (by simp) fun K hK => ?_; simp (disch := omega) only [kc, prep1, Nat.reduceAdd, opS_len, effR, ty_slice77, ls_len, effM, ofConst, Value.oneCell', evBin, decF]; (with_reducible refine hK _ ?_))
        refine WpA_cond rfl (fun h => by simp at h <;> omega) (fun _ => ?_)
        (refine WpA_sreg [] [] (by simp) fun K hK => ?_; simp (disch := omega) only [kc, prep1, Nat.reduceAdd, opS_fieldAddr, effR, ty_fld79_0, ty_sz4, Nat.add_zero, updH, packT, ty_agg4, stS_guard, effM, ofConst, Value.oneCell', Option.map_none, opS_pick]; (with_reducible refine hK _ ?_))
        refine WpA_cond rfl (fun h => by simp at h <;> omega) (fun _ => ?_)
        (refine WpA_sreg [] [] (by simp) fun K hK => ?_; simp (disch := omega) only [kc, prep1, Nat.reduceAdd, opS_fieldAddr, effR, ty_fld79_0, ty_sz4, Nat.add_zero, updH, packT, ty_agg4, opS_un, effM, evUn, Bool.not_false, stS_guard, ofConst, Value.oneCell', ifT, evBin, decT, opS_pick]; (with_reducible refine hK _ ?_))
        refine WpA_cond rfl (fun _ => ?_) (fun h => by simp at h <;> omega)
        (refine WpA_sreg [] [] (by simp) fun K hK => ?_; simp (disch := omega) only [kc, prep1, Nat.reduceAdd, opS_conv, effM, Tryz.underlying35, ty_int2, e1, ofConst, Value.oneCell']; (with_reducible refine hK _ ?_))
        (refine WpA_ret ⟨.inr rfl, ret_now rfl ?_ rfl⟩; simp (disch := omega) only [resA, Tryz.results96, resL, resOne, List.getElem?_cons_succ, List.getElem?_cons_zero, Option.bind_some, tvPair, Option.map_some])
      · rw [show i64R z = .tup [(false, [.p (.raw (.int .i64 0))]), (false, [.p (.raw (.bool false))])] by unfold i64R; rw [if_neg (by omega)]]
        refine callC_of Tryz.func96 rfl (by kernel_rfl) ?_; rw [Tryz.ntmps96]
        (refine WpA_sreg [] [] (by simp) fun K hK => ?_; simp (disch := omega) only [kc, prep1, Nat.reduceAdd, tZ, decF, List.replicate, opS_box, newS, effA, cellsOf, isPure, ifT, ofConst, Value.oneCell']; (with_reducible refine hK _ ?_))
        (refine WpA_sreg [⟨2, _, _, _, ht⟩] [] (by simp) fun K hK => ?_; simp (disch := omega) only [kc, slU, CItem.a, prep1, Nat.reduceAdd, opS_fieldAddr, effR, ty_fld79_1, ty_sz77, updH, packT, ty_agg77, opS_call, newS, effA, List.find?_cons, evAll, norm, CallRes.plain, rawTV, rawAV, normOk, noRefTV, noRefAV, renTV, renAV]; (with_reducible refine hK _ ?_))
        (refine WpA_sreg [⟨1, _, _, _, hw⟩] [] (by simp) fun K hK => ?_; simp (disch := omega) only [kc, slU, CItem.a, prep1, Nat.reduceAdd, opS_call, newS, effA, List.find?_cons, evAll, norm, CallRes.plain, rawTV, rawAV, normOk, noRefTV, noRefAV, renTV, renAV]; (with_reducible refine hK _ ?_))
        refine WpA_seq (WpA_block ?_)
        (refine WpA_sreg [] [] (by simp) fun K hK => ?_; simp (disch := omega) only [kc, prep1, Nat.reduceAdd, opS_len, effR, ty_slice77, ls_len, effM, ofConst, Value.oneCell', evBin, decF]; (with_reducible refine hK _ ?_))
        refine WpA_cond rfl (fun h => by simp at h <;> omega) (fun _ => ?_)
        (refine WpA_sreg [] [] (by simp) fun K hK => ?_; simp (disch := omega) only [kc, prep1, Nat.reduceAdd, opS_fieldAddr, effR, ty_fld79_0, ty_sz4, Nat.add_zero, updH, packT, ty_agg4, stS_guard, effM, ofConst, Value.oneCell', Option.map_none, opS_pick]; (with_reducible refine hK _ ?_))
        refine WpA_cond rfl (fun h => by simp at h <;> omega) (fun _ => ?_)
        (refine WpA_sreg [] [] (by simp) fun K hK => ?_; simp (disch := omega) only [kc, prep1, Nat.reduceAdd, opS_fieldAddr, effR, ty_fld79_0, ty_sz4, Nat.add_zero, updH, packT, ty_agg4, opS_un, effM, evUn, Bool.not_false, stS_guard, ofConst, Value.oneCell', ifT, evBin, decF, opS_pick]; (with_reducible refine hK _ ?_))
        refine WpA_cond rfl (fun h => by simp at h <;> omega) (fun _ => WpA_skip ?_)
        show WpA _ _ _ _
        (refine WpA_sreg [] [] (by simp) fun K hK => ?_; simp (disch := omega) only [kc, prep1, ofConst, Value.oneCell']; (with_reducible refine hK _ ?_))
        (refine WpA_ret ⟨.inr rfl, ret_now rfl ?_ rfl⟩; simp (disch := omega) only [resA, Tryz.results96, resL, resOne, List.getElem?_cons_succ, List.getElem?_cons_zero, Option.bind_some, tvPair, Option.map_some])
theorem natV_digit : ∀ {l : List Nat} {i x : Nat}, Lmb l → l[i]? = some x → natV l / 4294967296 ^ i % 4294967296 = x
  | [], i, x, _, h => by simp at h
  | a :: l, 0, x, hl, h => by
    rw [lmb_cons] at hl
    simp at h
    subst h
    have := hl.1
    simp only [natV, Nat.pow_zero]
    omega
  | a :: l, i + 1, x, hl, h => by
    rw [lmb_cons] at hl
    have ha := hl.1
    simp at h
    have := natV_digit hl.2 h
    rw [Nat.pow_succ, Nat.mul_comm, ← Nat.div_div_eq_div_mul]
    simp only [natV]
    rw [show (a + 4294967296 * natV l) / 4294967296 = natV l by omega]
    exact this
theorem pow32 (i : Nat) : 4294967296 ^ i = 2 ^ (32 * i) := by rw [Nat.pow_mul]
theorem bit_digit {a k x : Nat} (h : (limbs a)[k / 32]? = some x) : x / 2 ^ (k % 32) % 2 = a / 2 ^ k % 2 := by
  have h1 := natV_digit (lmb_limbs a) h
  rw [natV_limbs, pow32] at h1
  rw [← Nat.toNat_testBit, ← Nat.toNat_testBit, ← h1, show (4294967296 : Nat) = 2 ^ 32 from rfl, Nat.testBit_mod_two_pow, Nat.testBit_div_two_pow]
  rw [show k % 32 + 32 * (k / 32) = k by omega]
  have : k % 32 < 32 := by omega
  simp [this]
structure DivG (a b n : Nat) where
  t : Nat
  O : List Nat
  ht : t ≤ 32 * n
  len : O.length = n
  lmb : Lmb O
  val : natV O = a / 2 ^ t / b * 2 ^ t
theorem half (a k : Nat) : a / 2 ^ k = 2 * (a / 2 ^ (k + 1)) + a / 2 ^ k % 2 := by
  rw [Nat.pow_succ, ← Nat.div_div_eq_div_mul]; omega
theorem div_lo {a b k : Nat} (hb : 0 < b) (h : 2 * (a / 2 ^ (k + 1) % b) + a / 2 ^ k % 2 < b) : a / 2 ^ k / b = 2 * (a / 2 ^ (k + 1) / b) ∧ a / 2 ^ k % b = 2 * (a / 2 ^ (k + 1) % b) + a / 2 ^ k % 2 := by
  have h1 := half a k
  have h2 := Nat.div_add_mod (a / 2 ^ (k + 1)) b
  generalize a / 2 ^ (k + 1) = X at *
  generalize a / 2 ^ k % 2 = e at *
  generalize X % b = r at *
  generalize X / b = q at *
  have h3 : a / 2 ^ k = b * (2 * q) + (2 * r + e) := by rw [h1, ← h2, Nat.mul_left_comm b 2 q]; omega
  rw [h3]
  exact ⟨by rw [Nat.mul_add_div hb, Nat.div_eq_of_lt h, Nat.add_zero], by rw [Nat.mul_add_mod, Nat.mod_eq_of_lt h]⟩
theorem div_hi {a b k : Nat} (hb : 0 < b) (h : b ≤ 2 * (a / 2 ^ (k + 1) % b) + a / 2 ^ k % 2) : a / 2 ^ k / b = 2 * (a / 2 ^ (k + 1) / b) + 1 ∧ a / 2 ^ k % b = 2 * (a / 2 ^ (k + 1) % b) + a / 2 ^ k % 2 - b := by
  have h1 := half a k
  have h2 := Nat.div_add_mod (a / 2 ^ (k + 1)) b
  have hr : a / 2 ^ (k + 1) % b < b := Nat.mod_lt _ hb
  have he : a / 2 ^ k % 2 < 2 := Nat.mod_lt _ (by omega)
  generalize a / 2 ^ (k + 1) = X at *
  generalize a / 2 ^ k % 2 = e at *
  generalize X % b = r at *
  generalize X / b = q at *
  have h3 : a / 2 ^ k = b * (2 * q + 1) + (2 * r + e - b) := by have := Nat.mul_left_comm b 2 q; rw [h1, ← h2, Nat.mul_add b (2 * q) 1, Nat.mul_one]; omega
  have h4 : 2 * r + e - b < b := by omega
  rw [h3]
  exact ⟨by rw [Nat.mul_add_div hb, Nat.div_eq_of_lt h4, Nat.add_zero], by rw [Nat.mul_add_mod, Nat.mod_eq_of_lt h4]⟩
theorem divG_lo {a b n k : Nat} {O : List Nat} (hb : 0 < b) (ht : k + 1 ≤ 32 * n) (len : O.length = n) (lmb : Lmb O) (val : natV O = a / 2 ^ (k + 1) / b * 2 ^ (k + 1)) (h : 2 * (a / 2 ^ (k + 1) % b) + a / 2 ^ k % 2 < b) : ∃ g : DivG a b n, g.t = k ∧ g.O = O :=
  ⟨⟨k, O, by omega, len, lmb, by rw [val, (div_lo hb h).1, Nat.pow_succ, Nat.mul_comm 2, Nat.mul_assoc, Nat.mul_comm 2]⟩, rfl, rfl⟩
theorem divG_hi {a b n k x : Nat} {O : List Nat} (hb : 0 < b) (ht : k + 1 ≤ 32 * n) (len : O.length = n) (lmb : Lmb O) (val : natV O = a / 2 ^ (k + 1) / b * 2 ^ (k + 1)) (h : b ≤ 2 * (a / 2 ^ (k + 1) % b) + a / 2 ^ k % 2) (hx : O[k / 32]? = some x) : ∃ g : DivG a b n, g.t = k ∧ g.O = O.set (k / 32) (x ||| 2 ^ (k % 32)) := by
  have hx' := lmb_at lmb hx
  have hj : k % 32 < 32 := Nat.mod_lt _ (by omega)
  have hor : x ||| 2 ^ (k % 32) < 4294967296 := Nat.or_lt_two_pow (n := 32) hx' (Nat.pow_lt_pow_right (by omega) hj)
  refine ⟨⟨k, O.set (k / 32) (x ||| 2 ^ (k % 32)), by omega, by simp [len], lmb_set lmb hor, ?_⟩, rfl, rfl⟩
  have h1 := natV_digit lmb hx
  have h2 := natV_set O (k / 32) (x ||| 2 ^ (k % 32)) x hx
  have ek : 2 ^ (k + 1) = 2 ^ (32 * (k / 32)) * 2 ^ (k % 32 + 1) := by rw [← Nat.pow_add]; congr 1; omega
  rw [pow32] at h1 h2
  rw [(div_hi hb h).1]
  generalize a / 2 ^ (k + 1) / b = q at *
  have h3 : x = q % 2 ^ (31 - k % 32) * 2 ^ (k % 32 + 1) := by
    rw [← h1, val, ek, Nat.mul_comm (2 ^ (32 * (k / 32))), ← Nat.mul_assoc, Nat.mul_div_cancel _ (Nat.pow_pos (by omega))]
    rw [show (4294967296 : Nat) = 2 ^ (31 - k % 32) * 2 ^ (k % 32 + 1) by rw [← Nat.pow_add, show 31 - k % 32 + (k % 32 + 1) = 32 by omega], Nat.mul_mod_mul_right]
  have h4 : x ||| 2 ^ (k % 32) = x + 2 ^ (k % 32) := by
    have := or_low (q % 2 ^ (31 - k % 32)) (2 ^ (k % 32)) (k % 32 + 1) (Nat.pow_lt_pow_right (by omega) (by omega))
    rw [← h3] at this
    exact this
  rw [h4] at h2 ⊢
  rw [Nat.add_mul, ← Nat.pow_add, show k % 32 + 32 * (k / 32) = k by omega, val] at h2
  have h5 : (2 * q + 1) * 2 ^ k = q * 2 ^ (k + 1) + 2 ^ k := by rw [Nat.add_mul, Nat.one_mul, Nat.mul_comm 2 q, Nat.mul_assoc, Nat.mul_comm 2 (2 ^ k), ← Nat.pow_succ]
  rw [h5]
  generalize natV (O.set (k / 32) (x + 2 ^ (k % 32))) = N at *
  generalize x * 2 ^ (32 * (k / 32)) = U at *
  generalize q * 2 ^ (k + 1) = V at *
  generalize 2 ^ k = W at *
  omega
theorem div_start {a n : Nat} (h : (limbs a).length = n) : a / 2 ^ (32 * n) = 0 := by
  have := natV_lt (lmb_limbs a)
  rw [natV_limbs, pow32, h] at this
  exact Nat.div_eq_of_lt this
end Go.Proofs.YtobnpabndpmabaaGreat
namespace Go.Proofs.YtobnpabndpmabaaGreat
open Go.RowKit
theorem cmpU_ge {a b : Nat} (h : b ≤ a) : 0 ≤ cmpU a b := by unfold cmpU; split <;> (try split) <;> omega
theorem cmpU_neg {a b : Nat} (h : a < b) : cmpU a b < 0 := by rw [cmpU_lt h]; decide
abbrev divR (a b : Nat) : TV := .tup [(false, [.p (.sl (ls fU (limbs (a / b))))]), (false, [.p (.sl (ls fU (limbs (a % b))))])]
theorem len_le {a b : Nat} (h : a ≤ b) : (limbs a).length ≤ (limbs b).length := natV_le_len (lmb_limbs _) (can_limbs _) (by rw [natV_limbs, natV_limbs]; exact h)
set_option maxRecDepth 100000 in
set_option maxHeartbeats 4000000 in
theorem divide_C (a b : Nat) (hb : 0 < b) (la : (limbs a).length ≤ 536870912) (lb : (limbs b).length ≤ 536870912) : CallC Tryz.prog 180 [slU (limbs a), slU (limbs b)] ⟨[], divR a b⟩ := by
  by_cases hs : (limbs a).length ≤ 2 ∧ (limbs b).length ≤ 2
  · obtain ⟨sa, sb⟩ := hs
    have ua := limbs_short sa
    have ub := limbs_short sb
    have h1 := low_C (limbs a) (lmb_limbs _) (by omega)
    have h2 := low_C (limbs b) (lmb_limbs _) (by omega)
    rw [List.take_of_length_le sa, natV_limbs] at h1
    rw [List.take_of_length_le sb, natV_limbs] at h2
    have hq : a / b ≤ a := Nat.div_le_self _ _
    have hr : a % b < b := Nat.mod_lt _ hb
    have h3 := word_C false (a / b) (by omega)
    have h4 := word_C false (a % b) (by omega)
    rw [show sgn false (a / b) = ((a / b : Nat) : Int) from rfl] at h3
    rw [show sgn false (a % b) = ((a % b : Nat) : Int) from rfl] at h4
    have hb0 : (b : Int) ≠ 0 := by omega
    have e1 : IntKind.u64.wrap (Int.tdiv (a : Int) (b : Int)) = ((a / b : Nat) : Int) := by
      rw [Int.tdiv_eq_ediv_of_nonneg (by omega), ← Int.natCast_ediv]; generalize a / b = q at *; rw [IntKind.wrap_u64]; omega
    have e2 : Int.tmod (a : Int) (b : Int) = ((a % b : Nat) : Int) := by
      rw [Int.tmod_eq_emod_of_nonneg (by omega), ← Int.natCast_emod]
    unfold divR
    generalize a / b = q at *
    generalize a % b = r at *
    refine callC_of Tryz.func180 rfl (by kernel_rfl) ?_; rw [Tryz.ntmps180]
    (refine WpA_sreg [] [] (by simp) fun K hK => ?_; simp (disch := omega) only [kc, prep1, slU, Nat.reduceAdd, List.replicate, ofConst, Value.oneCell']; (with_reducible refine hK _ ?_))
    (refine WpA_seq (WpA_sreg [] [] (by simp) fun K hK => ?_); simp (disch := omega) only [kc, prep1, Nat.reduceAdd, opS_len, effR, ty_slice77, ls_len, effM, ofConst, Value.oneCell', evBin, decT, stS_guard, ifT, opS_pick]; (with_reducible refine hK _ ?_))
    refine WpA_cond rfl (fun _ => ?_) (fun h => by simp at h <;> omega)
    (refine WpA_sreg [⟨1, _, _, _, h1⟩, ⟨3, _, _, _, h2⟩] [] (by simp) fun K hK => ?_; simp (disch := omega) only [kc, slU, CItem.a, prep1, Nat.reduceAdd, opS_call, newS, effA, List.find?_cons, evAll, norm, CallRes.plain, rawTV, rawAV, normOk, noRefTV, noRefAV, renTV, renAV, Nat.reduceBEq]; (with_reducible refine hK _ ?_))
    (refine WpA_sdraw mixedA [⟨3, _, _, _, h3⟩, ⟨8, _, _, _, h4⟩] [] (by kernel_rfl) (by simp) fun K hK => ?_; simp (disch := omega) only [kc, tZ, decF, Int.natAbs_natCast, CItem.a, prep1, Nat.reduceAdd, effM, evBin, ne_eq, hb0, not_false_eq_true, e1, opS_call, newS, effA, List.find?_cons, evAll, ofConst, Value.oneCell', norm, CallRes.plain, rawTV, rawAV, normOk, noRefTV, noRefAV, renTV, renAV, opS_field, effR, ty_fld79_1, packT, ty_sz77, ty_agg77, e2, Nat.reduceBEq]; (with_reducible refine hK _ ?_))
    (refine WpA_ret ⟨.inr rfl, ret_now rfl ?_ rfl⟩; simp (disch := omega) only [resA, Tryz.results180, resL, resOne, List.getElem?_cons_succ, List.getElem?_cons_zero, Option.bind_some, tvPair, Option.map_some])
  · refine callC_of Tryz.func180 rfl (by kernel_rfl) ?_; rw [Tryz.ntmps180]
    (refine WpA_sreg [] [] (by simp) fun K hK => ?_; simp (disch := omega) only [kc, prep1, slU, Nat.reduceAdd, List.replicate, ofConst, Value.oneCell']; (with_reducible refine hK _ ?_))
    by_cases h3 : (limbs a).length ≤ 2
    all_goals
      ((first | refine WpA_sreg [] [] (by simp) fun K hK => ?_ | refine WpA_seq (WpA_sreg [] [] (by simp) fun K hK => ?_) | refine WpA_seq (WpA_seq (WpA_sreg [] [] (by simp) fun K hK => ?_))); simp (disch := omega) only [kc, prep1, Nat.reduceAdd, opS_len, effR, ty_slice77, ls_len, effM, ofConst, Value.oneCell', evBin, decT, stS_guard, ifT, decF, opS_pick, Option.map_none]; (with_reducible refine hK _ ?_))
      refine WpA_cond rfl (fun h => by simp at h <;> omega) (fun _ => WpA_skip ?_)
      show WpA _ _ _ _
      ((first | refine WpA_sreg [] [] (by simp) fun K hK => ?_ | refine WpA_seq (WpA_sreg [] [] (by simp) fun K hK => ?_) | refine WpA_seq (WpA_seq (WpA_sreg [] [] (by simp) fun K hK => ?_))); simp (disch := omega) only [kc, prep1, Nat.reduceAdd, opS_len, effR, ty_slice77, ls_len, opS_makeSlice, newS, effA, ty_zero154, ty_sz154, ty_by154, Int.natCast_nonneg, Value.oneCell', and_true, lcU_rep, ifT]; (with_reducible refine hK _ ?_))
      ((first | refine WpA_sreg [] [] (by simp) fun K hK => ?_ | refine WpA_seq (WpA_sreg [] [] (by simp) fun K hK => ?_) | refine WpA_seq (WpA_seq (WpA_sreg [] [] (by simp) fun K hK => ?_))); simp (disch := omega) only [kc, prep1, Nat.reduceAdd, opS_len, effR, ty_slice77, ls_len, effM, ofConst, Value.oneCell', evBin, wrapI]; (with_reducible refine hK _ ?_))
      refine WpA_forb (G := DivG a b (limbs a).length) (fun g => ⟨[slU (limbs a), slU (limbs b), jk, jk, .one (.sl 33 0 0 (limbs a).length), slU (limbs (a / 2 ^ g.t % b)), jk, jk, .raw (.int .i64 ((g.t : Int) - 1)), jk, jk, jk, jk, jk, jk, jk, jk, jk, jk, jk, jk, jk, jk, jk, jk, jk, jk, jk, jk, jk, jk, jk, jk, jk, jk, jk, jk, jk, jk, jk, jk, jk, jk, jk, jk, jk, jk, jk, jk, jk, jk, jk, jk, jk, jk, jk, jk, jk, jk, jk, jk, jk, jk, jk, jk, jk, jk, jk, jk, jk, jk, jk, jk, jk, jk], Hm [(33, [⟨154, 1, lc fU g.O⟩])]⟩) (fun g => g.t) ⟨32 * (limbs a).length, List.replicate (limbs a).length 0, by omega, by simp, fun x hx => by simp at hx; omega, by rw [natV_rep, div_start rfl]; simp⟩ ?_ ?_
      · refine (Weak_nil (k := 5) (d := 900) 154 1 (by omega) rfl rfl).trans ((Weak_fz 900 (fzOk_one (f := fU) (l := []) rfl)).trans (Weak_sub ⟨rfl, trivial⟩ ?_))
        simp [wkL, okTV, okAV, fzTV, fzAV, div_start rfl, limbs_zero]
        rfl
      · rintro ⟨t, O, ht, len, lmb, val⟩
        simp only
        cases t with
        | zero =>
          have htr := trim_C O (by omega)
          rw [trim_limbs lmb, val] at htr
          simp only [Nat.pow_zero, Nat.div_one, Nat.mul_one] at htr
          simp only [Nat.pow_zero, Nat.div_one]
          ((first | refine WpA_sreg [] [] (by simp) fun K hK => ?_ | refine WpA_seq (WpA_sreg [] [] (by simp) fun K hK => ?_) | refine WpA_seq (WpA_seq (WpA_sreg [] [] (by simp) fun K hK => ?_))); simp (disch := omega) only [kc, prep1, slU, Hm, effM, ofConst, Value.oneCell', evBin, decF]; (with_reducible refine hK _ ?_))
          refine WpA_cond rfl (fun h => by simp at h <;> omega) (fun _ => WpA_exit ?_)
          show WpA _ _ _ _
          refine WpA.weak (Weak_fz 33 (fzOk_one rfl)) ?_
          have eT : List.take (limbs a).length O = O := List.take_of_length_le (by omega)
          simp (disch := omega) only [kc, fzTV, fzAV, ifT, lc_take, eT, lc_cellF]
          ((first | refine WpA_sreg [⟨1, _, _, _, htr⟩] [] (by simp) fun K hK => ?_ | refine WpA_seq (WpA_sreg [⟨1, _, _, _, htr⟩] [] (by simp) fun K hK => ?_) | refine WpA_seq (WpA_seq (WpA_sreg [⟨1, _, _, _, htr⟩] [] (by simp) fun K hK => ?_))); simp (disch := omega) only [kc, slU, CItem.a, prep1, Nat.reduceAdd, opS_call, newS, effA, List.find?_cons, evAll, norm, CallRes.plain, rawTV, rawAV, normOk, noRefTV, noRefAV, renTV, renAV]; (with_reducible refine hK _ ?_))
          (refine WpA_ret ⟨.inr rfl, ret_now rfl ?_ rfl⟩; simp (disch := omega) only [resA, Tryz.results180, resL, resOne, List.getElem?_cons_succ, List.getElem?_cons_zero, Option.bind_some, tvPair, Option.map_some])
        | succ k =>
          have ek : ((k + 1 : Nat) : Int) - 1 = (k : Int) := by omega
          simp only [ek]
          have hki : k / 32 < (limbs a).length := by omega
          obtain ⟨x, hx⟩ := getElem?_of_lt hki
          have hx' := lmb_at (lmb_limbs a) hx
          obtain ⟨y, hy⟩ := getElem?_of_lt (show k / 32 < O.length by omega)
          have hy' := lmb_at lmb hy
          have hbit := bit_digit hx
          have hq : IntKind.i64.wrap (Int.tdiv (k : Int) 32) = ((k / 32 : Nat) : Int) := by
            rw [Int.tdiv_eq_ediv_of_nonneg (by omega), IntKind.wrap_i64]; omega
          have hr : Int.tmod (k : Int) 32 = ((k % 32 : Nat) : Int) := by rw [Int.tmod_eq_emod_of_nonneg (by omega)]; omega
          have hmin : min (k % 32) IntKind.u32.bits = k % 32 := by show min (k % 32) 32 = _; omega
          have e1 : Int.fdiv (x : Int) (2 ^ min (k % 32) IntKind.u32.bits) = ((x / 2 ^ (k % 32) : Nat) : Int) := by
            rw [hmin, Int.fdiv_eq_ediv_of_nonneg _ (Int.pow_nonneg (by omega)), Int.natCast_ediv, Int.natCast_pow]; rfl
          have hxl : x / 2 ^ (k % 32) ≤ x := Nat.div_le_self _ _
          have e2 : IntKind.u32.wrap (((BitVec.ofInt IntKind.u32.bits ((x / 2 ^ (k % 32) : Nat) : Int) &&& BitVec.ofInt IntKind.u32.bits (1 : Int)).toNat : Nat) : Int) = ((a / 2 ^ k % 2 : Nat) : Int) := by
            rw [← hbit, ← Nat.and_one_is_mod]
            exact and32 (x / 2 ^ (k % 32)) 1 (by omega) (by omega)
          have hbl : a / 2 ^ k % 2 < 2 := Nat.mod_lt _ (by omega)
          have hrb : a / 2 ^ (k + 1) % b < b := Nat.mod_lt _ hb
          have lr := len_le (Nat.le_of_lt hrb)
          have h1 := double_C (limbs (a / 2 ^ (k + 1) % b)) (a / 2 ^ k % 2) (lmb_limbs _) (by omega) (by omega)
          have h2 := trim_C (dblL (limbs (a / 2 ^ (k + 1) % b)) (a / 2 ^ k % 2)) (by rw [dblL_len]; omega)
          rw [trim_limbs (lmb_dblL _ _ (lmb_limbs _) (by omega)), natV_dblL _ _ (lmb_limbs _) (by omega), natV_limbs] at h2
          by_cases hge : b ≤ 2 * (a / 2 ^ (k + 1) % b) + a / 2 ^ k % 2
          · obtain ⟨g', q1, q2⟩ := divG_hi hb ht len lmb val hge hy
            have hrest := (div_hi hb hge).2
            have lr' := limbs_len (n := 2 * (a / 2 ^ (k + 1) % b) + a / 2 ^ k % 2) (k := (limbs b).length + 1) (by
              have := natV_lt (lmb_limbs b)
              rw [natV_limbs] at this
              have hlt : ∀ r e P : Nat, r < b → e < 2 → b < P → 2 * r + e < P * 4294967296 := by intros; omega
              exact Nat.lt_of_lt_of_le (hlt _ _ _ hrb hbl this) (Nat.le_of_eq (Nat.pow_succ ..).symm))
            generalize 2 * (a / 2 ^ (k + 1) % b) + a / 2 ^ k % 2 = R at *
            have h3 := cmp_C (limbs R) (limbs b) (lmb_limbs _) (lmb_limbs _) (can_limbs _) (can_limbs _) (by omega) (by omega)
            rw [natV_limbs, natV_limbs] at h3
            have hc := cmpU_ge hge
            have h4 := difference_C (limbs R) (limbs b) (lmb_limbs _) (lmb_limbs _) (by omega) (by omega)
            have h5 := trim_C (diffL (limbs R) (limbs b) 0) (by rw [diffL_len]; omega)
            have hd := natV_diffL (limbs R) (limbs b) 0 (lmb_limbs _) (lmb_limbs _) (by omega) (len_le hge) (by rw [natV_limbs, natV_limbs]; exact hge)
            rw [natV_limbs, natV_limbs] at hd
            rw [trim_limbs (lmb_diffL _ _ _), show natV (diffL (limbs R) (limbs b) 0) = a / 2 ^ k % b by omega] at h5
            have hp2 : 2 ^ (k % 32) < 4294967296 := Nat.pow_lt_pow_right (a := 2) (n := 32) (by omega) (Nat.mod_lt _ (by omega))
            have e3 : IntKind.u32.wrap (1 * 2 ^ min (k % 32) IntKind.u32.bits) = ((2 ^ (k % 32) : Nat) : Int) := by
              rw [hmin, Int.one_mul, show ((2 : Int) ^ (k % 32)) = ((2 ^ (k % 32) : Nat) : Int) by rw [Int.natCast_pow]; rfl, w32, Nat.mod_eq_of_lt hp2]
            have e4 := or32 y (2 ^ (k % 32)) hy' hp2
            ((first | refine WpA_sreg [] [] (by simp) fun K hK => ?_ | refine WpA_seq (WpA_sreg [] [] (by simp) fun K hK => ?_) | refine WpA_seq (WpA_seq (WpA_sreg [] [] (by simp) fun K hK => ?_))); simp (disch := omega) only [kc, prep1, slU, Hm, effM, ofConst, Value.oneCell', evBin, Int.natCast_nonneg, decT]; (with_reducible refine hK _ ?_))
            refine WpA_cond rfl (fun _ => WpA_skip ?_) (fun h => by simp at h <;> omega)
            refine WpA_seq (WpA_block ?_)
            ((first | refine WpA_sreg [⟨10, _, _, _, h1⟩, ⟨11, _, _, _, h2⟩] [] (by simp) fun K hK => ?_ | refine WpA_seq (WpA_sreg [⟨10, _, _, _, h1⟩, ⟨11, _, _, _, h2⟩] [] (by simp) fun K hK => ?_) | refine WpA_seq (WpA_seq (WpA_sreg [⟨10, _, _, _, h1⟩, ⟨11, _, _, _, h2⟩] [] (by simp) fun K hK => ?_))); simp (disch := omega) only [kc, slU, CItem.a, prep1, Nat.reduceAdd, effM, ofConst, Value.oneCell', evBin, hq, ifT, opS_indexAddr, effR, natOf_pos, ty_slice77, ls_get, hx, fU, ty_sz154, packT, ty_agg154, hr, Int.natCast_nonneg, e1, e2, opS_call, newS, effA, List.find?_cons, evAll, norm, CallRes.plain, rawTV, rawAV, normOk, noRefTV, noRefAV, renTV, renAV, Nat.reduceBEq]; (with_reducible refine hK _ ?_))
            ((first | refine WpA_sreg [⟨2, _, _, _, h3⟩] [] (by simp) fun K hK => ?_ | refine WpA_seq (WpA_sreg [⟨2, _, _, _, h3⟩] [] (by simp) fun K hK => ?_) | refine WpA_seq (WpA_seq (WpA_sreg [⟨2, _, _, _, h3⟩] [] (by simp) fun K hK => ?_))); simp (disch := omega) only [kc, slU, CItem.a, prep1, Nat.reduceAdd, opS_call, newS, effA, List.find?_cons, evAll, norm, CallRes.plain, rawTV, rawAV, normOk, noRefTV, noRefAV, renTV, renAV, effM, ofConst, Value.oneCell', evBin, decT]; (with_reducible refine hK _ ?_))
            refine WpA_cond rfl (fun _ => ?_) (fun h => by simp at h <;> omega)
            ((first | refine WpA_sreg [⟨2, _, _, _, h4⟩, ⟨3, _, _, _, h5⟩] [] (by simp) fun K hK => ?_ | refine WpA_seq (WpA_sreg [⟨2, _, _, _, h4⟩, ⟨3, _, _, _, h5⟩] [] (by simp) fun K hK => ?_) | refine WpA_seq (WpA_seq (WpA_sreg [⟨2, _, _, _, h4⟩, ⟨3, _, _, _, h5⟩] [] (by simp) fun K hK => ?_))); simp (disch := omega) only [kc, slU, CItem.a, prep1, Nat.reduceAdd, opS_call, newS, effA, List.find?_cons, evAll, norm, CallRes.plain, rawTV, rawAV, normOk, noRefTV, noRefAV, renTV, renAV, Nat.reduceBEq]; (with_reducible refine hK _ ?_))
            ((refine WpA_ldraw mixedA [] [] (by kernel_rfl) (by simp) fun K hK => ?_); simp (disch := omega) only [kc, prep1, Nat.reduceAdd, effM, ofConst, Value.oneCell', evBin, hq, ifT, opS_indexAddr, effR, natOf_pos, ty_slice77, ty_sz154, lc_get, fU, hy, packT, ty_agg154, hr, Int.natCast_nonneg, e3, e4, opS_store, wrS, effD, cellsOf, Nat.le_refl, isPure, putCells, lcU_set, killTV, killAV]; (with_reducible refine hK _ ?_))
            show WpA _ _ _ _
            ((refine WpA_lreg [] [] (by simp) fun K hK => ?_); simp (disch := omega) only [kc, prep1, Nat.reduceAdd, effM, ofConst, Value.oneCell', evBin, wrapI]; (with_reducible refine hK _ ?_))
            refine ⟨g', by omega, Weak_sub ⟨by rw [q2]; rfl, trivial⟩ ?_⟩
            simp [wkL, okTV, okAV, q1]
          · obtain ⟨g', q1, q2⟩ := divG_lo hb ht len lmb val (by omega)
            have hrest := (div_lo (a := a) (k := k) hb (by omega)).2
            rw [← hrest] at h2 hge
            have lr' := len_le (Nat.le_of_lt (Nat.mod_lt (a / 2 ^ k) hb))
            have h3 := cmp_C (limbs (a / 2 ^ k % b)) (limbs b) (lmb_limbs _) (lmb_limbs _) (can_limbs _) (can_limbs _) (by omega) (by omega)
            rw [natV_limbs, natV_limbs] at h3
            have hc := cmpU_neg (a := a / 2 ^ k % b) (b := b) (by omega)
            ((first | refine WpA_sreg [] [] (by simp) fun K hK => ?_ | refine WpA_seq (WpA_sreg [] [] (by simp) fun K hK => ?_) | refine WpA_seq (WpA_seq (WpA_sreg [] [] (by simp) fun K hK => ?_))); simp (disch := omega) only [kc, prep1, slU, Hm, effM, ofConst, Value.oneCell', evBin, Int.natCast_nonneg, decT]; (with_reducible refine hK _ ?_))
            refine WpA_cond rfl (fun _ => WpA_skip ?_) (fun h => by simp at h <;> omega)
            refine WpA_seq (WpA_block ?_)
            ((first | refine WpA_sreg [⟨10, _, _, _, h1⟩, ⟨11, _, _, _, h2⟩] [] (by simp) fun K hK => ?_ | refine WpA_seq (WpA_sreg [⟨10, _, _, _, h1⟩, ⟨11, _, _, _, h2⟩] [] (by simp) fun K hK => ?_) | refine WpA_seq (WpA_seq (WpA_sreg [⟨10, _, _, _, h1⟩, ⟨11, _, _, _, h2⟩] [] (by simp) fun K hK => ?_))); simp (disch := omega) only [kc, slU, CItem.a, prep1, Nat.reduceAdd, effM, ofConst, Value.oneCell', evBin, hq, ifT, opS_indexAddr, effR, natOf_pos, ty_slice77, ls_get, hx, fU, ty_sz154, packT, ty_agg154, hr, Int.natCast_nonneg, e1, e2, opS_call, newS, effA, List.find?_cons, evAll, norm, CallRes.plain, rawTV, rawAV, normOk, noRefTV, noRefAV, renTV, renAV, Nat.reduceBEq]; (with_reducible refine hK _ ?_))
            ((first | refine WpA_sreg [⟨2, _, _, _, h3⟩] [] (by simp) fun K hK => ?_ | refine WpA_seq (WpA_sreg [⟨2, _, _, _, h3⟩] [] (by simp) fun K hK => ?_) | refine WpA_seq (WpA_seq (WpA_sreg [⟨2, _, _, _, h3⟩] [] (by simp) fun K hK => ?_))); simp (disch := omega) only [kc, slU, CItem.a, prep1, Nat.reduceAdd, opS_call, newS, effA, List.find?_cons, evAll, norm, CallRes.plain, rawTV, rawAV, normOk, noRefTV, noRefAV, renTV, renAV, effM, ofConst, Value.oneCell', evBin, decF]; (with_reducible refine hK _ ?_))
            refine WpA_cond rfl (fun h => by simp at h <;> omega) (fun _ => WpA_skip ?_)
            show WpA _ _ _ _
            ((refine WpA_lreg [] [] (by simp) fun K hK => ?_); simp (disch := omega) only [kc, prep1, Nat.reduceAdd, effM, ofConst, Value.oneCell', evBin, wrapI]; (with_reducible refine hK _ ?_))
            refine ⟨g', by omega, Weak_sub ⟨by rw [q2]; rfl, trivial⟩ ?_⟩
            simp [wkL, okTV, okAV, q1]
end Go.Proofs.YtobnpabndpmabaaGreat
namespace Go.Proofs.YtobnpabndpmabaaGreat
open Go.RowKit
theorem szOne {P : Program} {p q t n : Nat} (h : szO P t = some n) (hn : n ≠ 1) : ∀ x ∈ [(p, q, t)], szO P x.2.2 ≠ some 1 := fun x hx => by
  have : x = (p, q, t) := by simpa using hx
  subst this
  rw [h]
  intro h'
  injection h' with h'
  exact hn h'
theorem sepOne {s : AS} {p q t a r i j b r' i' j' : Nat} (h1 : s.tmps[p]? = some (.one (.ptr a r i j))) (h2 : s.tmps[q]? = some (.one (.ptr b r' i' j'))) (hne : b ≠ a) : SepS [(p, q, t)] s := fun x hx a2 r2 i2 j2 b2 r3 i3 j3 g1 g2 => by
  have : x = (p, q, t) := by simpa using hx
  subst this
  simp only [h1] at g1
  simp only [h2] at g2
  injection g1 with g1; injection g1 with g1; injection g1 with g1
  injection g2 with g2; injection g2 with g2; injection g2 with g2
  subst g1 g2
  exact hne
def tq (a b : Int) : Int := sgn (!(decide (a < 0) == decide (b < 0))) (a.natAbs / b.natAbs)
def tr (a b : Int) : Int := sgn (decide (a < 0)) (a.natAbs % b.natAbs)
theorem tq_tr (a b : Int) : tr a b + b * tq a b = a := by
  have h := Nat.div_add_mod a.natAbs b.natAbs
  have h' : (b.natAbs : Int) * ((a.natAbs / b.natAbs : Nat) : Int) + ((a.natAbs % b.natAbs : Nat) : Int) = (a.natAbs : Int) := by
    have := congrArg (Nat.cast (R := Int)) h
    simpa using this
  unfold tq tr sgn
  generalize a.natAbs / b.natAbs = q at *
  generalize a.natAbs % b.natAbs = r at *
  by_cases ha : a < 0 <;> by_cases hb : b < 0
  · rw [decide_eq_true ha, decide_eq_true hb]
    show -(r : Int) + b * (q : Int) = a
    rw [show (b.natAbs : Int) = -b by omega, show (a.natAbs : Int) = -a by omega, Int.neg_mul] at h'; omega
  · rw [decide_eq_true ha, decide_eq_false hb]
    show -(r : Int) + b * -(q : Int) = a
    rw [show (b.natAbs : Int) = b by omega, show (a.natAbs : Int) = -a by omega] at h'; rw [Int.mul_neg]; omega
  · rw [decide_eq_false ha, decide_eq_true hb]
    show (r : Int) + b * -(q : Int) = a
    rw [show (b.natAbs : Int) = -b by omega, show (a.natAbs : Int) = a by omega, Int.neg_mul] at h'; rw [Int.mul_neg]; omega
  · rw [decide_eq_false ha, decide_eq_false hb]
    show (r : Int) + b * (q : Int) = a
    rw [show (b.natAbs : Int) = b by omega, show (a.natAbs : Int) = a by omega] at h'; omega
theorem tr_abs (a b : Int) : (tr a b).natAbs = a.natAbs % b.natAbs := sgn_abs' _ _
theorem tq_abs (a b : Int) : (tq a b).natAbs = a.natAbs / b.natAbs := sgn_abs' _ _
theorem tr_lt {a b : Int} (hb : b ≠ 0) : (tr a b).natAbs < b.natAbs := by rw [tr_abs]; exact Nat.mod_lt _ (by omega)
theorem dm_pos {a b : Int} (hb : b ≠ 0) (h : 0 ≤ tr a b) : a / b = tq a b ∧ a % b = tr a b := by
  have h1 := tq_tr a b
  have h2 := tr_lt (a := a) hb
  rcases Int.lt_or_gt_of_ne hb with hn | hp
  · exact (Int.ediv_emod_unique' hn).2 ⟨h1, h, by omega⟩
  · exact (Int.ediv_emod_unique hp).2 ⟨h1, h, by omega⟩
theorem dm_neg1 {a b : Int} (hb : b < 0) (h : tr a b < 0) : a / b = tq a b + 1 ∧ a % b = tr a b + b.natAbs := by
  have h1 := tq_tr a b
  have h2 := tr_lt (a := a) (b := b) (by omega)
  refine (Int.ediv_emod_unique' hb).2 ⟨?_, by omega, by omega⟩
  rw [Int.mul_add, Int.mul_one]; omega
theorem dm_neg2 {a b : Int} (hb : 0 < b) (h : tr a b < 0) : a / b = tq a b - 1 ∧ a % b = tr a b + b.natAbs := by
  have h1 := tq_tr a b
  have h2 := tr_lt (a := a) (b := b) (by omega)
  refine (Int.ediv_emod_unique hb).2 ⟨?_, by omega, by omega⟩
  rw [Int.mul_sub, Int.mul_one]; omega
theorem Sz.le {x y : Int} {k : Nat} (h : Sz y k) (hx : x.natAbs ≤ y.natAbs) : Sz x k := Nat.lt_of_le_of_lt hx h
theorem sz_one {k : Nat} (h : 0 < k) : Sz 1 k := by unfold Sz; exact Nat.one_lt_pow (by omega) (by decide)
theorem bh_one : Bh 1 := sz_one (by omega)
theorem sg_neg {z : Int} (h : z < 0) : sg z = -1 := by simp [sg, h]
theorem sg_nonneg {z : Int} (h : 0 ≤ z) : 0 ≤ sg z := by unfold sg; split <;> (try split) <;> omega
set_option maxRecDepth 100000 in
set_option maxHeartbeats 4000000 in
theorem DivMod_C (a b : Int) (hb0 : b ≠ 0) (ha : Bh a) (hb : Bh b) : CallC Tryz.prog 164 [tZ a, tZ b] ⟨[], .tup [(true, cZ (a / b)), (true, cZ (a % b)), (false, [.p (.raw (.bool true))])]⟩ := by
  have la := ha.len
  have lb := hb.len
  have t1 := trim_C (limbs a.natAbs) ha.bg.len
  have t2 := trim_C (limbs b.natAbs) hb.bg.len
  rw [trim_id] at t1 t2
  have hl0 : (limbs b.natAbs).length ≠ 0 := fun h => hb0 (by have := limbs_len0.1 h; omega)
  have hd := divide_C a.natAbs b.natAbs (by omega) la lb
  have bq : Bh (tq a b) := ha.le (by rw [tq_abs]; exact Nat.div_le_self _ _)
  have br : Bh (tr a b) := hb.le (Nat.le_of_lt (tr_lt hb0))
  have hm1 := make_C (!(decide (a < 0) == decide (b < 0))) (limbs (a.natAbs / b.natAbs)) (lmb_limbs _) (by have := bq.bg.len; rwa [tq_abs] at this)
  have hm2 := make_C (decide (a < 0)) (limbs (a.natAbs % b.natAbs)) (lmb_limbs _) (by have := br.bg.len; rwa [tr_abs] at this)
  rw [natV_limbs, show sgn _ _ = tq a b from rfl] at hm1
  rw [natV_limbs, show sgn _ _ = tr a b from rfl] at hm2
  have hs := sign_C (tr a b) br.bg
  have p0 := @dm_pos a b hb0
  have p1 := @dm_neg1 a b
  have p2 := @dm_neg2 a b
  generalize tq a b = Q at *
  generalize tr a b = R at *
  by_cases hR : R < 0
  · have hm3 := make_C false (limbs b.natAbs) (lmb_limbs _) (by omega)
    rw [natV_limbs, show sgn false b.natAbs = ((b.natAbs : Nat) : Int) from rfl] at hm3
    have hA := Add_C R (b.natAbs : Int) br (by unfold Bh Sz; rw [Int.natAbs_natCast]; exact hb)
    have hs2 := sign_C b hb.bg
    have h1 := small_C 1 (by omega) (by omega)
    rw [sg_neg hR] at hs
    by_cases hbn : b < 0
    · obtain ⟨e1, e2⟩ := p1 hbn hR
      rw [e1, e2]
      rw [sg_neg hbn] at hs2
      have hA2 := Add_C Q 1 bq bh_one
      refine callC_of Tryz.func164 rfl (by kernel_rfl) ?_; rw [Tryz.ntmps164]
      (refine WpA_sreg [] [] (by simp) fun K hK => ?_; simp (disch := omega) only [kc, prep1, Nat.reduceAdd, tZ, decT, List.replicate, opS_box, newS, effA, cellsOf, isPure, ifT, updH, Nat.reduceEqDiff, opS_alloc, ty_zero79, Value.oneCell', ifF, ofConst]; (with_reducible refine hK _ ?_))
      (refine WpA_sdraw mixedA [⟨2, _, _, _, t1⟩, ⟨5, _, _, _, t2⟩] [] (by kernel_rfl) (by simp) fun K hK => ?_; simp (disch := omega) only [kc, slU, CItem.a, prep1, Nat.reduceAdd, opS_fieldAddr, effR, ty_fld79_1, ty_sz77, updH, Nat.reduceEqDiff, ifF, packT, ty_agg77, opS_call, newS, effA, List.find?_cons, evAll, norm, CallRes.plain, rawTV, rawAV, normOk, noRefTV, noRefAV, renTV, renAV, Nat.reduceBEq]; (with_reducible refine hK _ ?_))
      (refine WpA_seq (WpA_sreg [] [] (by simp) fun K hK => ?_); simp (disch := omega) only [kc, prep1, Nat.reduceAdd, opS_len, effR, ty_slice77, ls_len, effM, ofConst, Value.oneCell', evBin, decF]; (with_reducible refine hK _ ?_))
      refine WpA_cond rfl (fun h => by simp at h <;> omega) (fun _ => WpA_skip ?_)
      show WpA _ _ _ _
      (refine WpA_sreg [⟨2, _, _, _, hd⟩] [] (by simp) fun K hK => ?_; simp (disch := omega) only [kc, slU, CItem.a, prep1, Nat.reduceAdd, opS_call, newS, effA, List.find?_cons, evAll, norm, CallRes.plain, rawTV, rawAV, normOk, noRefTV, noRefAV, renTV, renAV, opS_extract, effM]; (with_reducible refine hK _ ?_))
      (refine WpA_sdraw mixedA [⟨6, _, _, _, hm1⟩, ⟨10, _, _, _, hm2⟩] [] (by kernel_rfl) (by simp) fun K hK => ?_; simp (disch := omega) only [kc, decT, slU, tZ, CItem.a, prep1, Nat.reduceAdd, opS_fieldAddr, effR, ty_fld79_0, ty_sz4, Nat.add_zero, updH, Nat.reduceEqDiff, ifF, packT, ty_agg4, effM, evBin, ty_bool4, opS_call, newS, effA, List.find?_cons, evAll, norm, CallRes.plain, rawTV, rawAV, normOk, noRefTV, noRefAV, renTV, renAV, Nat.reduceBEq, opS_alloc, ty_zero79, Value.oneCell', ifT, opS_store, wrS, effD, ty_sz79, cellsOf, Nat.le_refl, isPure, putCells, killTV, killAV]; (with_reducible refine hK _ ?_))
      refine WpA.weak (Weak_sub (tm := [jk, jk, .one (.ptr 2 0 0 0), .one (.ptr 3 0 0 0), .one (.ptr 4 0 0 0), .one (.ptr 5 0 0 0), .raw (.bool false), jk, slU (limbs b.natAbs), jk, jk, .one (.ptr 11 0 0 0), .one (.ptr 12 0 0 0), jk, jk, jk, jk, jk, jk, jk, jk, jk, jk, jk, jk, jk, jk, jk, jk, jk, jk, jk, jk, jk, jk, jk, jk, jk, jk, jk, jk, jk, jk, jk, jk, jk, jk, jk, jk, jk, jk, jk, jk, jk, jk, jk, jk, jk, jk, jk, jk]) (l := [(2, bxZ (decide (a < 0)) (limbs a.natAbs)), (3, bxZ true (limbs b.natAbs)), (4, bx0), (5, bx0), (11, bxZ (decide (Q < 0)) (limbs Q.natAbs)), (12, bxZ true (limbs R.natAbs))]) ⟨rfl, rfl, rfl, rfl, rfl, rfl, trivial⟩ (by simp [wkL, okTV, okAV])) ?_
      (refine WpA_seq (WpA_sreg [⟨1, _, _, _, hs⟩] [] (by simp) fun K hK => ?_); simp (disch := omega) only [kc, tZ, decT, CItem.a, prep1, Nat.reduceAdd, slU, Hm, effR, Nat.reduceEqDiff, ifF, packT, ty_sz79, ty_agg79, Nat.le_refl, opS_call, newS, effA, List.find?_cons, evAll, norm, CallRes.plain, rawTV, rawAV, normOk, isPure, noRefTV, noRefAV, renTV, renAV, effM, ofConst, Value.oneCell', evBin]; (with_reducible refine hK _ ?_))
      refine WpA_cond rfl (fun _ => ?_) (fun h => by simp at h <;> omega)
      (refine WpA_sdraw mixedA [⟨2, _, _, _, hm3⟩, ⟨3, _, _, _, hA⟩] [] (by kernel_rfl) (by simp) fun K hK => ?_; simp (disch := omega) only [kc, slU, tZ, decF, decT, CItem.a, prep1, Nat.reduceAdd, effR, Nat.reduceEqDiff, ifF, packT, ty_sz79, ty_agg79, Nat.le_refl, opS_call, newS, effA, List.find?_cons, evAll, ofConst, Value.oneCell', norm, CallRes.plain, rawTV, rawAV, normOk, noRefTV, noRefAV, renTV, renAV, Nat.reduceBEq, isPure, opS_store, wrS, effD, cellsOf, ifT, putCells, killTV, killAV]; (with_reducible refine hK _ ?_))
      (refine WpA_seq (WpA_sreg [⟨1, _, _, _, hs2⟩] [] (by simp) fun K hK => ?_); simp (disch := omega) only [kc, tZ, decT, CItem.a, prep1, Nat.reduceAdd, effR, updH, Nat.reduceEqDiff, ifF, packT, ty_sz79, ty_agg79, Nat.le_refl, opS_call, newS, effA, List.find?_cons, evAll, norm, CallRes.plain, rawTV, rawAV, normOk, isPure, noRefTV, noRefAV, renTV, renAV, effM, ofConst, Value.oneCell', evBin]; (with_reducible refine hK _ ?_))
      refine WpA_cond rfl (fun _ => ?_) (fun h => by simp at h <;> omega)
      (refine WpA_ssep [(12, 4, 79)] mixedA [⟨1, _, _, _, h1⟩, ⟨2, _, _, _, hA2⟩] [] (by kernel_rfl) (szOne (n := 2) (by simp only [ty_sz79, ty_agg79, ty_zero79, ty_fld79_1, ty_sz77, ty_agg77, ty_slice77, ty_bool3, ty_plc79, ty_fld79_0, ty_sz4, ty_agg4, ty_bool4]) (by decide)) (sepOne rfl rfl (by decide)) (by simp) fun K hK => ?_; simp (disch := omega) only [kc, tZ, decF, CItem.a, prep1, Nat.reduceAdd, effR, updH, Nat.reduceEqDiff, ifF, packT, ty_sz79, ty_agg79, Nat.le_refl, opS_call, newS, effA, List.find?_cons, evAll, ofConst, Value.oneCell', norm, CallRes.plain, rawTV, rawAV, normOk, noRefTV, noRefAV, renTV, renAV, Nat.reduceBEq, isPure, opS_store, wrS, effD, cellsOf, ifT, putCells, killTV, killAV]; (with_reducible refine hK _ ?_))
      (refine WpA_ret ⟨.inr rfl, ret_now rfl ?_ rfl⟩; simp (disch := omega) only [kc, resA, Tryz.results164, resL, resOne, updH, Nat.reduceEqDiff, ifF, packT, ty_sz79, ty_agg79, Nat.reduceAdd, Nat.le_refl, tvPair, cZ])
    · obtain ⟨e1, e2⟩ := p2 (by omega) hR
      rw [e1, e2]
      have hs3 := sg_nonneg (z := b) (by omega)
      have hA2 := Sub_C Q 1 bq bh_one
      refine callC_of Tryz.func164 rfl (by kernel_rfl) ?_; rw [Tryz.ntmps164]
      (refine WpA_sreg [] [] (by simp) fun K hK => ?_; simp (disch := omega) only [kc, prep1, Nat.reduceAdd, tZ, decF, List.replicate, opS_box, newS, effA, cellsOf, isPure, ifT, updH, Nat.reduceEqDiff, opS_alloc, ty_zero79, Value.oneCell', ifF, ofConst]; (with_reducible refine hK _ ?_))
      (refine WpA_sdraw mixedA [⟨2, _, _, _, t1⟩, ⟨5, _, _, _, t2⟩] [] (by kernel_rfl) (by simp) fun K hK => ?_; simp (disch := omega) only [kc, slU, CItem.a, prep1, Nat.reduceAdd, opS_fieldAddr, effR, ty_fld79_1, ty_sz77, updH, Nat.reduceEqDiff, ifF, packT, ty_agg77, opS_call, newS, effA, List.find?_cons, evAll, norm, CallRes.plain, rawTV, rawAV, normOk, noRefTV, noRefAV, renTV, renAV, Nat.reduceBEq]; (with_reducible refine hK _ ?_))
      (refine WpA_seq (WpA_sreg [] [] (by simp) fun K hK => ?_); simp (disch := omega) only [kc, prep1, Nat.reduceAdd, opS_len, effR, ty_slice77, ls_len, effM, ofConst, Value.oneCell', evBin, decF]; (with_reducible refine hK _ ?_))
      refine WpA_cond rfl (fun h => by simp at h <;> omega) (fun _ => WpA_skip ?_)
      show WpA _ _ _ _
      (refine WpA_sreg [⟨2, _, _, _, hd⟩] [] (by simp) fun K hK => ?_; simp (disch := omega) only [kc, slU, CItem.a, prep1, Nat.reduceAdd, opS_call, newS, effA, List.find?_cons, evAll, norm, CallRes.plain, rawTV, rawAV, normOk, noRefTV, noRefAV, renTV, renAV, opS_extract, effM]; (with_reducible refine hK _ ?_))
      (refine WpA_sdraw mixedA [⟨6, _, _, _, hm1⟩, ⟨10, _, _, _, hm2⟩] [] (by kernel_rfl) (by simp) fun K hK => ?_; simp (disch := omega) only [kc, decF, slU, tZ, decT, CItem.a, prep1, Nat.reduceAdd, opS_fieldAddr, effR, ty_fld79_0, ty_sz4, Nat.add_zero, updH, Nat.reduceEqDiff, ifF, packT, ty_agg4, effM, evBin, ty_bool4, opS_call, newS, effA, List.find?_cons, evAll, norm, CallRes.plain, rawTV, rawAV, normOk, noRefTV, noRefAV, renTV, renAV, Nat.reduceBEq, opS_alloc, ty_zero79, Value.oneCell', ifT, opS_store, wrS, effD, ty_sz79, cellsOf, Nat.le_refl, isPure, putCells, killTV, killAV]; (with_reducible refine hK _ ?_))
      refine WpA.weak (Weak_sub (tm := [jk, jk, .one (.ptr 2 0 0 0), .one (.ptr 3 0 0 0), .one (.ptr 4 0 0 0), .one (.ptr 5 0 0 0), .raw (.bool false), jk, slU (limbs b.natAbs), jk, jk, .one (.ptr 11 0 0 0), .one (.ptr 12 0 0 0), jk, jk, jk, jk, jk, jk, jk, jk, jk, jk, jk, jk, jk, jk, jk, jk, jk, jk, jk, jk, jk, jk, jk, jk, jk, jk, jk, jk, jk, jk, jk, jk, jk, jk, jk, jk, jk, jk, jk, jk, jk, jk, jk, jk, jk, jk, jk, jk]) (l := [(2, bxZ (decide (a < 0)) (limbs a.natAbs)), (3, bxZ false (limbs b.natAbs)), (4, bx0), (5, bx0), (11, bxZ (decide (Q < 0)) (limbs Q.natAbs)), (12, bxZ true (limbs R.natAbs))]) ⟨rfl, rfl, rfl, rfl, rfl, rfl, trivial⟩ (by simp [wkL, okTV, okAV])) ?_
      (refine WpA_seq (WpA_sreg [⟨1, _, _, _, hs⟩] [] (by simp) fun K hK => ?_); simp (disch := omega) only [kc, tZ, decT, CItem.a, prep1, Nat.reduceAdd, slU, Hm, effR, Nat.reduceEqDiff, ifF, packT, ty_sz79, ty_agg79, Nat.le_refl, opS_call, newS, effA, List.find?_cons, evAll, norm, CallRes.plain, rawTV, rawAV, normOk, isPure, noRefTV, noRefAV, renTV, renAV, effM, ofConst, Value.oneCell', evBin]; (with_reducible refine hK _ ?_))
      refine WpA_cond rfl (fun _ => ?_) (fun h => by simp at h <;> omega)
      (refine WpA_sdraw mixedA [⟨2, _, _, _, hm3⟩, ⟨3, _, _, _, hA⟩] [] (by kernel_rfl) (by simp) fun K hK => ?_; simp (disch := omega) only [kc, slU, tZ, decF, decT, CItem.a, prep1, Nat.reduceAdd, effR, Nat.reduceEqDiff, ifF, packT, ty_sz79, ty_agg79, Nat.le_refl, opS_call, newS, effA, List.find?_cons, evAll, ofConst, Value.oneCell', norm, CallRes.plain, rawTV, rawAV, normOk, noRefTV, noRefAV, renTV, renAV, Nat.reduceBEq, isPure, opS_store, wrS, effD, cellsOf, ifT, putCells, killTV, killAV]; (with_reducible refine hK _ ?_))
      (refine WpA_seq (WpA_sreg [⟨1, _, _, _, hs2⟩] [] (by simp) fun K hK => ?_); simp (disch := omega) only [kc, tZ, decF, CItem.a, prep1, Nat.reduceAdd, effR, updH, Nat.reduceEqDiff, ifF, packT, ty_sz79, ty_agg79, Nat.le_refl, opS_call, newS, effA, List.find?_cons, evAll, norm, CallRes.plain, rawTV, rawAV, normOk, isPure, noRefTV, noRefAV, renTV, renAV, effM, ofConst, Value.oneCell', evBin]; (with_reducible refine hK _ ?_))
      refine WpA_cond rfl (fun h => by simp at h <;> omega) (fun _ => WpA_skip ?_)
      show WpA _ _ _ _
      (refine WpA_ssep [(12, 4, 79)] mixedA [⟨1, _, _, _, h1⟩, ⟨2, _, _, _, hA2⟩] [] (by kernel_rfl) (szOne (n := 2) (by simp only [ty_sz79, ty_agg79, ty_zero79, ty_fld79_1, ty_sz77, ty_agg77, ty_slice77, ty_bool3, ty_plc79, ty_fld79_0, ty_sz4, ty_agg4, ty_bool4]) (by decide)) (sepOne rfl rfl (by decide)) (by simp) fun K hK => ?_; simp (disch := omega) only [kc, tZ, decF, CItem.a, prep1, Nat.reduceAdd, effR, updH, Nat.reduceEqDiff, ifF, packT, ty_sz79, ty_agg79, Nat.le_refl, opS_call, newS, effA, List.find?_cons, evAll, ofConst, Value.oneCell', norm, CallRes.plain, rawTV, rawAV, normOk, noRefTV, noRefAV, renTV, renAV, Nat.reduceBEq, isPure, opS_store, wrS, effD, cellsOf, ifT, putCells, killTV, killAV]; (with_reducible refine hK _ ?_))
      (refine WpA_ret ⟨.inr rfl, ret_now rfl ?_ rfl⟩; simp (disch := omega) only [kc, resA, Tryz.results164, resL, resOne, updH, Nat.reduceEqDiff, ifF, packT, ty_sz79, ty_agg79, Nat.reduceAdd, Nat.le_refl, tvPair, cZ])
  · obtain ⟨e1, e2⟩ := p0 (by omega)
    rw [e1, e2]
    have hs3 := sg_nonneg (z := R) (by omega)
    refine callC_of Tryz.func164 rfl (by kernel_rfl) ?_; rw [Tryz.ntmps164]
    (refine WpA_sreg [] [] (by simp) fun K hK => ?_; simp (disch := omega) only [kc, prep1, Nat.reduceAdd, tZ, List.replicate, opS_box, newS, effA, cellsOf, isPure, ifT, updH, Nat.reduceEqDiff, opS_alloc, ty_zero79, Value.oneCell', ifF, ofConst]; (with_reducible refine hK _ ?_))
    (refine WpA_sdraw mixedA [⟨2, _, _, _, t1⟩, ⟨5, _, _, _, t2⟩] [] (by kernel_rfl) (by simp) fun K hK => ?_; simp (disch := omega) only [kc, slU, CItem.a, prep1, Nat.reduceAdd, opS_fieldAddr, effR, ty_fld79_1, ty_sz77, updH, Nat.reduceEqDiff, ifF, packT, ty_agg77, opS_call, newS, effA, List.find?_cons, evAll, norm, CallRes.plain, rawTV, rawAV, normOk, noRefTV, noRefAV, renTV, renAV, Nat.reduceBEq]; (with_reducible refine hK _ ?_))
    (refine WpA_seq (WpA_sreg [] [] (by simp) fun K hK => ?_); simp (disch := omega) only [kc, prep1, Nat.reduceAdd, opS_len, effR, ty_slice77, ls_len, effM, ofConst, Value.oneCell', evBin, decF]; (with_reducible refine hK _ ?_))
    refine WpA_cond rfl (fun h => by simp at h <;> omega) (fun _ => WpA_skip ?_)
    show WpA _ _ _ _
    (refine WpA_sreg [⟨2, _, _, _, hd⟩] [] (by simp) fun K hK => ?_; simp (disch := omega) only [kc, slU, CItem.a, prep1, Nat.reduceAdd, opS_call, newS, effA, List.find?_cons, evAll, norm, CallRes.plain, rawTV, rawAV, normOk, noRefTV, noRefAV, renTV, renAV, opS_extract, effM]; (with_reducible refine hK _ ?_))
    (refine WpA_sdraw mixedA [⟨6, _, _, _, hm1⟩, ⟨10, _, _, _, hm2⟩] [] (by kernel_rfl) (by simp) fun K hK => ?_; simp (disch := omega) only [kc, slU, tZ, decF, CItem.a, prep1, Nat.reduceAdd, opS_fieldAddr, effR, ty_fld79_0, ty_sz4, Nat.add_zero, updH, Nat.reduceEqDiff, ifF, packT, ty_agg4, effM, evBin, ty_bool4, opS_call, newS, effA, List.find?_cons, evAll, norm, CallRes.plain, rawTV, rawAV, normOk, noRefTV, noRefAV, renTV, renAV, Nat.reduceBEq, opS_alloc, ty_zero79, Value.oneCell', ifT, opS_store, wrS, effD, ty_sz79, cellsOf, Nat.le_refl, isPure, putCells, killTV, killAV]; (with_reducible refine hK _ ?_))
    refine WpA.weak (Weak_sub (tm := [jk, jk, .one (.ptr 2 0 0 0), .one (.ptr 3 0 0 0), .one (.ptr 4 0 0 0), .one (.ptr 5 0 0 0), .raw (.bool false), jk, slU (limbs b.natAbs), jk, jk, .one (.ptr 11 0 0 0), .one (.ptr 12 0 0 0), jk, jk, jk, jk, jk, jk, jk, jk, jk, jk, jk, jk, jk, jk, jk, jk, jk, jk, jk, jk, jk, jk, jk, jk, jk, jk, jk, jk, jk, jk, jk, jk, jk, jk, jk, jk, jk, jk, jk, jk, jk, jk, jk, jk, jk, jk, jk, jk]) (l := [(2, bxZ (decide (a < 0)) (limbs a.natAbs)), (3, bxZ (decide (b < 0)) (limbs b.natAbs)), (4, bx0), (5, bx0), (11, bxZ (decide (Q < 0)) (limbs Q.natAbs)), (12, bxZ false (limbs R.natAbs))]) ⟨rfl, rfl, rfl, rfl, rfl, rfl, trivial⟩ (by simp [wkL, okTV, okAV])) ?_
    (refine WpA_seq (WpA_sreg [⟨1, _, _, _, hs⟩] [] (by simp) fun K hK => ?_); simp (disch := omega) only [kc, tZ, decF, CItem.a, prep1, Nat.reduceAdd, slU, Hm, effR, Nat.reduceEqDiff, ifF, packT, ty_sz79, ty_agg79, Nat.le_refl, opS_call, newS, effA, List.find?_cons, evAll, norm, CallRes.plain, rawTV, rawAV, normOk, isPure, noRefTV, noRefAV, renTV, renAV, effM, ofConst, Value.oneCell', evBin]; (with_reducible refine hK _ ?_))
    refine WpA_cond rfl (fun h => by simp at h <;> omega) (fun _ => WpA_skip ?_)
    show WpA _ _ _ _
    (refine WpA_ssep [(12, 4, 79)] mixedA [] [] (by kernel_rfl) (szOne (n := 2) (by simp only [ty_sz79, ty_agg79, ty_zero79, ty_fld79_1, ty_sz77, ty_agg77, ty_slice77, ty_bool3, ty_plc79, ty_fld79_0, ty_sz4, ty_agg4, ty_bool4]) (by decide)) (sepOne rfl rfl (by decide)) (by simp) fun K hK => ?_; simp (disch := omega) only [kc, prep1, Nat.reduceAdd, effR, Nat.reduceEqDiff, ifF, packT, ty_sz79, ty_agg79, Nat.le_refl, opS_store, wrS, effD, cellsOf, isPure, ifT, putCells, killTV, killAV, updH, ofConst, Value.oneCell']; (with_reducible refine hK _ ?_))
    (refine WpA_ret ⟨.inr rfl, ret_now rfl ?_ rfl⟩; simp (disch := omega) only [kc, resA, Tryz.results164, resL, resOne, updH, Nat.reduceEqDiff, ifF, packT, ty_sz79, ty_agg79, Nat.reduceAdd, Nat.le_refl, tvPair, cZ, decF])
set_option maxRecDepth 100000 in
set_option maxHeartbeats 4000000 in
theorem Quo_C (a b : Int) (hb0 : b ≠ 0) (ha : Bh a) (hb : Bh b) : CallC Tryz.prog 138 [tZ a, tZ b] ⟨[], tZ (a / b)⟩ := by
  have h1 := DivMod_C a b hb0 ha hb
  refine callC_of Tryz.func138 rfl (by kernel_rfl) ?_; rw [Tryz.ntmps138]
  (refine WpA_sreg [] [] (by simp) fun K hK => ?_; simp (disch := omega) only [kc, prep1, Nat.reduceAdd, tZ, List.replicate, opS_box, newS, effA, cellsOf, isPure, ifT, updH, Nat.reduceEqDiff, opS_alloc, ty_zero79, Value.oneCell', ifF]; (with_reducible refine hK _ ?_))
  (refine WpA_sreg [⟨2, _, _, _, h1⟩] [] (by simp) fun K hK => ?_; simp (disch := omega) only [kc, tZ, cZ, CItem.a, prep1, Nat.reduceAdd, effR, updH, Nat.reduceEqDiff, ifF, packT, ty_sz79, ty_agg79, Nat.le_refl, opS_call, newS, effA, List.find?_cons, evAll, norm, CallRes.plain, rawTV, rawAV, normOk, isPure, noRefTV, noRefAV, renTV, renAV, opS_extract, effM, opS_alloc, ty_zero79, Value.oneCell', ifT, opS_store, wrS, effD, cellsOf, putCells, killTV, killAV]; (with_reducible refine hK _ ?_))
  (refine WpA_sreg [] [] (by simp) fun K hK => ?_; simp (disch := omega) only [kc, prep1, effR, updH, Nat.reduceEqDiff, ifF, packT, ty_sz79, ty_agg79, Nat.reduceAdd, Nat.le_refl, opS_store, wrS, effD, cellsOf, isPure, ifT, putCells, killTV, killAV]; (with_reducible refine hK _ ?_))
  (refine WpA_ret ⟨.inr rfl, ret_now rfl ?_ rfl⟩; simp (disch := omega) only [kc, resA, Tryz.results138, resOne, updH, Nat.reduceEqDiff, ifF, packT, ty_sz79, ty_agg79, Nat.reduceAdd, Nat.le_refl, tZ])
end Go.Proofs.YtobnpabndpmabaaGreat
namespace Go.Proofs.YtobnpabndpmabaaGreat
open Go.RowKit
def fR {α : Type} (f : α → List PV) (r : List α) : List PV := [.sl (ls f r)]
abbrev slM (M : List (List Int)) : TV := .one (.p (.sl (ls (fR fZ) M)))
abbrev rOk (n : Nat) (r : List Int) : Prop := 1 ≤ r.length ∧ r.length ≤ 16 ∧ r.length = n
def ShP (M : List (List Int)) : Prop := 1 ≤ M.length ∧ M.length ≤ 16 ∧ ∀ r ∈ M, rOk (M.headD []).length r
instance (M : List (List Int)) : Decidable (ShP M) := by unfold ShP; exact inferInstance
def shT (M : List (List Int)) : TV := if ShP M then .tup [(false, [.p (.raw (.int .i64 (M.length : Int)))]), (false, [.p (.raw (.int .i64 ((M.headD []).length : Int)))]), (false, [.p (.raw (.bool true))])]
  else .tup [(false, [.p (.raw (.int .i64 0))]), (false, [.p (.raw (.int .i64 0))]), (false, [.p (.raw (.bool false))])]
theorem shT_no {M : List (List Int)} (h : ¬ ShP M) : shT M = .tup [(false, [.p (.raw (.int .i64 0))]), (false, [.p (.raw (.int .i64 0))]), (false, [.p (.raw (.bool false))])] := by unfold shT; rw [if_neg h]
theorem shT_yes {M : List (List Int)} (h : ShP M) : shT M = .tup [(false, [.p (.raw (.int .i64 (M.length : Int)))]), (false, [.p (.raw (.int .i64 ((M.headD []).length : Int)))]), (false, [.p (.raw (.bool true))])] := by unfold shT; rw [if_pos h]
theorem headD_at {M : List (List Int)} (h : 1 ≤ M.length) : M[0]? = some (M.headD []) := by cases M with
  | nil => simp at h
  | cons r M => rfl
structure ShG (M : List (List Int)) where
  i : Nat
  hi : i ≤ M.length
  ok : ∀ r ∈ M.take i, rOk (M.headD []).length r
set_option maxRecDepth 100000 in
set_option maxHeartbeats 4000000 in
theorem Shape_C (M : List (List Int)) : CallC Tryz.prog 95 [slM M] ⟨[], shT M⟩ := by
  by_cases h1 : M.length < 1
  · rw [shT_no (fun h => by have := h.1; omega)]
    refine callC_of Tryz.func95 rfl (by kernel_rfl) ?_; rw [Tryz.ntmps95]
    (refine WpA_sreg [] [] (by simp) fun K hK => ?_; simp (disch := omega) only [kc, prep1, Nat.reduceAdd, slM, List.replicate, ofConst, Value.oneCell']; (with_reducible refine hK _ ?_))
    (refine WpA_seq (WpA_sreg [] [] (by simp) fun K hK => ?_); simp (disch := omega) only [kc, prep1, Nat.reduceAdd, opS_len, effR, ty_slice50, ls_len, effM, ofConst, Value.oneCell', evBin, decT, stS_guard, reduceCtorEq, Option.map_none, opS_pick]; (with_reducible refine hK _ ?_))
    refine WpA_cond rfl (fun _ => ?_) (fun h => by simp at h <;> omega)
    (refine WpA_sreg [] [] (by simp) fun K hK => ?_; simp (disch := omega) only [kc, prep1, Nat.reduceAdd, ofConst, Value.oneCell']; (with_reducible refine hK _ ?_))
    (refine WpA_ret ⟨.inr rfl, ret_now rfl ?_ rfl⟩; simp (disch := omega) only [resA, Tryz.results95, resL, resOne, List.getElem?_cons_succ, List.getElem?_cons_zero, Option.bind_some, tvPair, Option.map_some])
  by_cases h2 : 16 < M.length
  · rw [shT_no (fun h => by have := h.2.1; omega)]
    refine callC_of Tryz.func95 rfl (by kernel_rfl) ?_; rw [Tryz.ntmps95]
    (refine WpA_sreg [] [] (by simp) fun K hK => ?_; simp (disch := omega) only [kc, prep1, Nat.reduceAdd, slM, List.replicate, ofConst, Value.oneCell']; (with_reducible refine hK _ ?_))
    (refine WpA_seq (WpA_sreg [] [] (by simp) fun K hK => ?_); simp (disch := omega) only [kc, prep1, Nat.reduceAdd, opS_len, effR, ty_slice50, ls_len, effM, ofConst, Value.oneCell', evBin, decF, stS_guard, ifT, decT, opS_pick]; (with_reducible refine hK _ ?_))
    refine WpA_cond rfl (fun _ => ?_) (fun h => by simp at h <;> omega)
    (refine WpA_sreg [] [] (by simp) fun K hK => ?_; simp (disch := omega) only [kc, prep1, Nat.reduceAdd, ofConst, Value.oneCell']; (with_reducible refine hK _ ?_))
    (refine WpA_ret ⟨.inr rfl, ret_now rfl ?_ rfl⟩; simp (disch := omega) only [resA, Tryz.results95, resL, resOne, List.getElem?_cons_succ, List.getElem?_cons_zero, Option.bind_some, tvPair, Option.map_some])
  have h0 := headD_at (M := M) (by omega)
  refine callC_of Tryz.func95 rfl (by kernel_rfl) ?_; rw [Tryz.ntmps95]
  (refine WpA_sreg [] [] (by simp) fun K hK => ?_; simp (disch := omega) only [kc, prep1, Nat.reduceAdd, slM, List.replicate, ofConst, Value.oneCell']; (with_reducible refine hK _ ?_))
  (refine WpA_seq (WpA_sreg [] [] (by simp) fun K hK => ?_); simp (disch := omega) only [kc, prep1, Nat.reduceAdd, opS_len, effR, ty_slice50, ls_len, effM, ofConst, Value.oneCell', evBin, decF, stS_guard, ifT, opS_pick]; (with_reducible refine hK _ ?_))
  refine WpA_cond rfl (fun h => by simp at h <;> omega) (fun _ => WpA_skip ?_)
  show WpA _ _ _ _
  (refine WpA_seq (WpA_sreg [] [] (by simp) fun K hK => ?_); simp (disch := omega) only [kc, prep1, Nat.reduceAdd, opS_len, effR, ty_slice50, ls_len, ofConst, Value.oneCell']; (with_reducible refine hK _ ?_))
  refine WpA_forb (G := ShG M) (fun g => ⟨[slM M, jk, .raw (.int .i64 0), .raw (.int .i64 0), .raw (.bool false), jk, jk, jk, jk, jk, jk, jk, jk, jk, jk, slM M, .raw (.int .i64 (M.length : Int)), .raw (.int .i64 (g.i : Int)), jk, jk, jk, jk, jk, jk, jk, jk, jk, jk, jk, jk, jk, jk, jk, jk, jk, jk, jk, jk, jk, jk, jk, jk, jk, jk, jk], Hm []⟩) (fun g => M.length - g.i) ⟨0, by omega, fun r hr => by simp at hr⟩ ?_ ?_
  · refine Weak_sub trivial ?_
    simp [wkL, okTV, okAV]
  · rintro ⟨i, hi, ok⟩
    simp only
    by_cases hm : i < M.length
    · obtain ⟨r, hr⟩ := getElem?_of_lt hm
      have hmem : r ∈ M := List.mem_of_getElem? hr
      (refine WpA_sreg [] [] (by simp) fun K hK => ?_; simp (disch := omega) only [kc, prep1, slM, Hm, effM, evBin, decT]; (with_reducible refine hK _ ?_))
      refine WpA_seq (WpA_cond rfl (fun _ => WpA_skip ?_) (fun h => by simp at h <;> omega))
      refine WpA_seq (WpA_block ?_)
      (refine WpA_sreg [] [] (by simp) fun K hK => ?_; simp (disch := omega) only [kc, prep1, Nat.reduceAdd, opS_indexAddr, effR, natOf_pos, ty_slice50, ls_get, hr, fR, ty_sz122, packT, ty_agg122]; (with_reducible refine hK _ ?_))
      by_cases c1 : r.length < 1
      · rw [shT_no (fun h => by have := (h.2.2 r hmem).1; omega)]
        (refine WpA_sreg [] [] (by simp) fun K hK => ?_; simp (disch := omega) only [kc, prep1, Nat.reduceAdd, opS_len, effR, ty_slice122, ls_len, effM, ofConst, Value.oneCell', evBin, decT, stS_guard, reduceCtorEq, Option.map_none, opS_pick, opS_indexAddr, natOf_pos, Int.reduceToNat, ty_slice50]; (with_reducible refine hK _ ?_))
        refine WpA_cond rfl (fun _ => ?_) (fun h => by simp at h <;> omega)
        (refine WpA_sreg [] [] (by simp) fun K hK => ?_; simp (disch := omega) only [kc, prep1, Nat.reduceAdd, ofConst, Value.oneCell']; (with_reducible refine hK _ ?_))
        (refine WpA_ret ⟨.inr rfl, ret_now rfl ?_ rfl⟩; simp (disch := omega) only [resA, Tryz.results95, resL, resOne, List.getElem?_cons_succ, List.getElem?_cons_zero, Option.bind_some, tvPair, Option.map_some])
      by_cases c2 : 16 < r.length
      · rw [shT_no (fun h => by have := (h.2.2 r hmem).2.1; omega)]
        (refine WpA_sreg [] [] (by simp) fun K hK => ?_; simp (disch := omega) only [kc, prep1, Nat.reduceAdd, opS_len, effR, ty_slice122, ls_len, effM, ofConst, Value.oneCell', evBin, decF, stS_guard, ifT, decT, opS_pick, reduceCtorEq, Option.map_none, opS_indexAddr, natOf_pos, Int.reduceToNat, ty_slice50]; (with_reducible refine hK _ ?_))
        refine WpA_cond rfl (fun _ => ?_) (fun h => by simp at h <;> omega)
        (refine WpA_sreg [] [] (by simp) fun K hK => ?_; simp (disch := omega) only [kc, prep1, Nat.reduceAdd, ofConst, Value.oneCell']; (with_reducible refine hK _ ?_))
        (refine WpA_ret ⟨.inr rfl, ret_now rfl ?_ rfl⟩; simp (disch := omega) only [resA, Tryz.results95, resL, resOne, List.getElem?_cons_succ, List.getElem?_cons_zero, Option.bind_some, tvPair, Option.map_some])
      by_cases c3 : r.length = (M.headD []).length
      · (refine WpA_sreg [] [] (by simp) fun K hK => ?_; simp (disch := omega) only [kc, prep1, Nat.reduceAdd, opS_len, effR, ty_slice122, ls_len, effM, ofConst, Value.oneCell', evBin, decF, stS_guard, ifT, opS_pick, opS_indexAddr, natOf_pos, Int.reduceToNat, ty_slice50, ls_get, h0, fR, ty_sz122, packT, ty_agg122, decT]; (with_reducible refine hK _ ?_))
        refine WpA_cond rfl (fun h => by simp at h <;> omega) (fun _ => WpA_skip ?_)
        show WpA _ _ _ _
        ((refine WpA_lreg [] [] (by simp) fun K hK => ?_); simp (disch := omega) only [kc, prep1, effM, ofConst, Value.oneCell', evBin, wrapI]; (with_reducible refine hK _ ?_))
        refine ⟨⟨i + 1, by omega, fun r' hr' => ?_⟩, by simp only; omega, Weak_sub trivial ?_⟩
        · rw [List.take_add_one, hr] at hr'
          rcases List.mem_append.1 hr' with h | h
          · exact ok r' h
          · have : r' = r := by simpa using h
            subst this
            exact ⟨by omega, by omega, c3⟩
        · simp [wkL, okTV, okAV]
      · rw [shT_no (fun h => by have := (h.2.2 r hmem).2.2; omega)]
        (refine WpA_sreg [] [] (by simp) fun K hK => ?_; simp (disch := omega) only [kc, prep1, Nat.reduceAdd, opS_len, effR, ty_slice122, ls_len, effM, ofConst, Value.oneCell', evBin, decF, stS_guard, ifT, opS_pick, opS_indexAddr, natOf_pos, Int.reduceToNat, ty_slice50, ls_get, h0, fR, ty_sz122, packT, ty_agg122, Bool.not_false]; (with_reducible refine hK _ ?_))
        refine WpA_cond rfl (fun _ => ?_) (fun h => by simp at h <;> omega)
        (refine WpA_sreg [] [] (by simp) fun K hK => ?_; simp (disch := omega) only [kc, prep1, Nat.reduceAdd, ofConst, Value.oneCell']; (with_reducible refine hK _ ?_))
        (refine WpA_ret ⟨.inr rfl, ret_now rfl ?_ rfl⟩; simp (disch := omega) only [resA, Tryz.results95, resL, resOne, List.getElem?_cons_succ, List.getElem?_cons_zero, Option.bind_some, tvPair, Option.map_some])
    · have hsh : ShP M := ⟨by omega, by omega, fun r hr => ok r (by rw [List.take_of_length_le (by omega)]; exact hr)⟩
      rw [shT_yes hsh]
      (refine WpA_sreg [] [] (by simp) fun K hK => ?_; simp (disch := omega) only [kc, prep1, slM, Hm, effM, evBin, decF]; (with_reducible refine hK _ ?_))
      refine WpA_seq (WpA_cond rfl (fun h => by simp at h <;> omega) (fun _ => WpA_exit ?_))
      show WpA _ _ _ _
      (refine WpA_sdraw mixedA [] [] (by kernel_rfl) (by simp) fun K hK => ?_; simp (disch := omega) only [kc, prep1, Nat.reduceAdd, opS_len, effR, ty_slice50, ls_len, opS_indexAddr, ofConst, Value.oneCell', natOf_pos, Int.reduceToNat, ls_get, h0, fR, ty_sz122, packT, ty_agg122, ty_slice122]; (with_reducible refine hK _ ?_))
      (refine WpA_ret ⟨.inr rfl, ret_now rfl ?_ rfl⟩; simp (disch := omega) only [resA, Tryz.results95, resL, resOne, List.getElem?_cons_succ, List.getElem?_cons_zero, Option.bind_some, tvPair, Option.map_some])
def SqP (M : List (List Int)) : Prop := ShP M ∧ M.length = (M.headD []).length
instance (M : List (List Int)) : Decidable (SqP M) := by unfold SqP; exact inferInstance
def sqT (M : List (List Int)) : TV := if SqP M then .tup [(false, [.p (.raw (.int .i64 (M.length : Int)))]), (false, [.p (.raw (.bool true))])] else .tup [(false, [.p (.raw (.int .i64 0))]), (false, [.p (.raw (.bool false))])]
set_option maxRecDepth 100000 in
set_option maxHeartbeats 4000000 in
theorem Square_C (M : List (List Int)) : CallC Tryz.prog 99 [slM M] ⟨[], sqT M⟩ := by
  have hS := Shape_C M
  by_cases h1 : ShP M
  · rw [shT_yes h1] at hS
    by_cases h2 : M.length = (M.headD []).length
    · rw [show sqT M = _ from if_pos ⟨h1, h2⟩]
      refine callC_of Tryz.func99 rfl (by kernel_rfl) ?_; rw [Tryz.ntmps99]
      (refine WpA_sreg [] [] (by simp) fun K hK => ?_; simp (disch := omega) only [kc, prep1, slM, List.replicate, ofConst, Value.oneCell']; (with_reducible refine hK _ ?_))
      (refine WpA_sreg [⟨1, _, _, _, hS⟩] [] (by simp) fun K hK => ?_; simp (disch := omega) only [kc, slM, CItem.a, prep1, Nat.reduceAdd, opS_call, newS, effA, List.find?_cons, evAll, norm, CallRes.plain, rawTV, rawAV, normOk, noRefTV, noRefAV, renTV, renAV, opS_extract, effM]; (with_reducible refine hK _ ?_))
      (refine WpA_seq (WpA_sreg [] [] (by simp) fun K hK => ?_); simp (disch := omega) only [kc, prep1, Nat.reduceAdd, opS_un, effM, evUn, stS_guard, evBin, decT, ifT, opS_pick]; (with_reducible refine hK _ ?_))
      refine WpA_cond rfl (fun h => by simp at h <;> omega) (fun _ => WpA_skip ?_)
      show WpA _ _ _ _
      (refine WpA_sreg [] [] (by simp) fun K hK => ?_; simp (disch := omega) only [kc, prep1, Nat.reduceAdd, ofConst, Value.oneCell']; (with_reducible refine hK _ ?_))
      (refine WpA_ret ⟨.inr rfl, ret_now rfl ?_ rfl⟩; simp (disch := omega) only [resA, Tryz.results99, resL, resOne, List.getElem?_cons_succ, List.getElem?_cons_zero, Option.bind_some, tvPair, Option.map_some])
    · rw [show sqT M = _ from if_neg (fun h => h2 h.2)]
      refine callC_of Tryz.func99 rfl (by kernel_rfl) ?_; rw [Tryz.ntmps99]
      (refine WpA_sreg [] [] (by simp) fun K hK => ?_; simp (disch := omega) only [kc, prep1, slM, List.replicate, ofConst, Value.oneCell']; (with_reducible refine hK _ ?_))
      (refine WpA_sreg [⟨1, _, _, _, hS⟩] [] (by simp) fun K hK => ?_; simp (disch := omega) only [kc, slM, CItem.a, prep1, Nat.reduceAdd, opS_call, newS, effA, List.find?_cons, evAll, norm, CallRes.plain, rawTV, rawAV, normOk, noRefTV, noRefAV, renTV, renAV, opS_extract, effM]; (with_reducible refine hK _ ?_))
      (refine WpA_seq (WpA_sreg [] [] (by simp) fun K hK => ?_); simp (disch := omega) only [kc, prep1, Nat.reduceAdd, opS_un, effM, evUn, stS_guard, evBin, decF, Bool.not_false, ifT, opS_pick]; (with_reducible refine hK _ ?_))
      refine WpA_cond rfl (fun _ => ?_) (fun h => by simp at h <;> omega)
      (refine WpA_sreg [] [] (by simp) fun K hK => ?_; simp (disch := omega) only [kc, prep1, ofConst, Value.oneCell']; (with_reducible refine hK _ ?_))
      (refine WpA_ret ⟨.inr rfl, ret_now rfl ?_ rfl⟩; simp (disch := omega) only [resA, Tryz.results99, resL, resOne, List.getElem?_cons_succ, List.getElem?_cons_zero, Option.bind_some, tvPair, Option.map_some])
  · rw [shT_no h1] at hS
    rw [show sqT M = _ from if_neg (fun h => h1 h.1)]
    refine callC_of Tryz.func99 rfl (by kernel_rfl) ?_; rw [Tryz.ntmps99]
    (refine WpA_sreg [] [] (by simp) fun K hK => ?_; simp (disch := omega) only [kc, prep1, slM, List.replicate, ofConst, Value.oneCell']; (with_reducible refine hK _ ?_))
    (refine WpA_sreg [⟨1, _, _, _, hS⟩] [] (by simp) fun K hK => ?_; simp (disch := omega) only [kc, slM, CItem.a, prep1, Nat.reduceAdd, opS_call, newS, effA, List.find?_cons, evAll, norm, CallRes.plain, rawTV, rawAV, normOk, noRefTV, noRefAV, renTV, renAV, opS_extract, effM]; (with_reducible refine hK _ ?_))
    (refine WpA_seq (WpA_sreg [] [] (by simp) fun K hK => ?_); simp (disch := omega) only [kc, prep1, Nat.reduceAdd, opS_un, effM, evUn, Bool.not_false, stS_guard, reduceCtorEq, Option.map_none, opS_pick, ofConst, Value.oneCell']; (with_reducible refine hK _ ?_))
    refine WpA_cond rfl (fun _ => ?_) (fun h => by simp at h <;> omega)
    (refine WpA_sreg [] [] (by simp) fun K hK => ?_; simp (disch := omega) only [kc, prep1, ofConst, Value.oneCell']; (with_reducible refine hK _ ?_))
    (refine WpA_ret ⟨.inr rfl, ret_now rfl ?_ rfl⟩; simp (disch := omega) only [resA, Tryz.results99, resL, resOne, List.getElem?_cons_succ, List.getElem?_cons_zero, Option.bind_some, tvPair, Option.map_some])
end Go.Proofs.YtobnpabndpmabaaGreat
