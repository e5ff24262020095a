/-
  Part 13 of a proof (walks and plain facts).
-/
import Derived.Test.YtobnpabndpmabaaGreatP11
set_option linter.all false
namespace Go.Proofs.YtobnpabndpmabaaGreat
open Go.RowKit
set_option maxRecDepth 100000 in
set_option maxHeartbeats 8000000 in
theorem Rem_C (a b : Int) (hb0 : b ≠ 0) (ha : Bh a) (hb : Bh b) : CallC Tryz.prog 185 [tZ a, tZ b] ⟨[], tZ (a % b)⟩ := by
  have h1 := DivMod_C a b hb0 ha hb
  refine callC_of Tryz.func185 rfl (by kernel_rfl) ?_; rw [Tryz.ntmps185]
  (refine WpA_sreg [] [] (by simp) fun K hK => ?_; simp (disch := omega) only [kc, prep1, Nat.reduceAdd, tZ, List.replicate, opS_box, newS, effA, cellsOf, isPure, ifT, updH, Nat.reduceEqDiff, opS_alloc, ty_zero79, Value.oneCell', ifF]; (with_reducible refine hK _ ?_))
  (refine WpA_sreg [⟨2, _, _, _, h1⟩] [] (by simp) fun K hK => ?_; simp (disch := omega) only [kc, tZ, cZ, CItem.a, prep1, Nat.reduceAdd, effR, updH, Nat.reduceEqDiff, ifF, packT, ty_sz79, ty_agg79, Nat.le_refl, opS_call, newS, effA, List.find?_cons, evAll, norm, CallRes.plain, rawTV, rawAV, normOk, isPure, noRefTV, noRefAV, renTV, renAV, opS_extract, effM, opS_alloc, ty_zero79, Value.oneCell', ifT, opS_store, wrS, effD, cellsOf, putCells, killTV, killAV]; (with_reducible refine hK _ ?_))
  (refine WpA_sreg [] [] (by simp) fun K hK => ?_; simp (disch := omega) only [kc, prep1, effR, updH, Nat.reduceEqDiff, ifF, packT, ty_sz79, ty_agg79, Nat.reduceAdd, Nat.le_refl, opS_store, wrS, effD, cellsOf, isPure, ifT, putCells, killTV, killAV]; (with_reducible refine hK _ ?_))
  (refine WpA_ret ⟨.inr rfl, ret_now rfl ?_ rfl⟩; simp (disch := omega) only [kc, resA, Tryz.results185, resOne, updH, Nat.reduceEqDiff, ifF, packT, ty_sz79, ty_agg79, Nat.reduceAdd, Nat.le_refl, tZ])
structure GcG (a b : Int) where
  x : Int
  y : Int
  hx : 0 ≤ x
  hy : 0 ≤ y
  hg : Int.gcd x y = Int.gcd a b
  sx : Bh x
  sy : Bh y
theorem gcd_step {x y : Int} (hx : 0 ≤ x) (hy : 0 ≤ y) : Int.gcd y (x % y) = Int.gcd x y := by
  obtain ⟨m, rfl⟩ := Int.eq_ofNat_of_zero_le hx
  obtain ⟨n, rfl⟩ := Int.eq_ofNat_of_zero_le hy
  show Nat.gcd n (m % n) = Nat.gcd m n
  rw [Nat.gcd_comm n, ← Nat.gcd_rec, Nat.gcd_comm]
set_option maxRecDepth 100000 in
set_option maxHeartbeats 8000000 in
theorem Gcd_C (a b : Int) (ha : Bh a) (hb : Bh b) : CallC Tryz.prog 181 [tZ a, tZ b] ⟨[], tZ (Int.gcd a b : Nat)⟩ := by
  have c1 := abs_C a ha.bg
  have c2 := abs_C b hb.bg
  refine callC_of Tryz.func181 rfl (by kernel_rfl) ?_; rw [Tryz.ntmps181]
  (refine WpA_sreg [] [] (by simp) fun K hK => ?_; simp (disch := omega) only [kc, prep1, Nat.reduceAdd, tZ, List.replicate, opS_box, newS, effA, cellsOf, isPure, ifT, updH, Nat.reduceEqDiff, opS_alloc, ty_zero79, Value.oneCell', ifF]; (with_reducible refine hK _ ?_))
  (refine WpA_sdraw mixedA [⟨1, _, _, _, c1⟩, ⟨3, _, _, _, c2⟩] [] (by kernel_rfl) (by simp) fun K hK => ?_; simp (disch := omega) only [kc, tZ, decF, CItem.a, prep1, Nat.reduceAdd, effR, updH, Nat.reduceEqDiff, ifF, packT, ty_sz79, ty_agg79, Nat.le_refl, opS_call, newS, effA, List.find?_cons, evAll, norm, CallRes.plain, rawTV, rawAV, normOk, isPure, noRefTV, noRefAV, renTV, renAV, Nat.reduceBEq, opS_alloc, ty_zero79, Value.oneCell', ifT, opS_store, wrS, effD, cellsOf, putCells, killTV, killAV]; (with_reducible refine hK _ ?_))
  refine WpA_seq (WpA_forb (G := GcG a b) (fun g => ⟨[jk, jk, jk, jk, .one (.ptr 4 0 0 0), .one (.ptr 5 0 0 0), .one (.ptr 6 0 0 0), jk, jk, jk, jk, jk, jk, jk, jk, jk, jk, jk, jk], Hm [(4, bx0), (5, bxV g.x), (6, bxV g.y)]⟩) (fun g => g.y.natAbs) ⟨a.natAbs, b.natAbs, by omega, by omega, by simp; rfl, ha.le (by omega), hb.le (by omega)⟩ ?_ ?_)
  · refine Weak_sub ⟨rfl, rfl, rfl, trivial⟩ ?_
    simp [wkL, okTV, okAV]
  · rintro ⟨x, y, hx, hy, hg, sx, sy⟩
    simp only
    have cs := sign_C y sy.bg
    by_cases h0 : y = 0
    · subst h0
      (refine WpA_seq (WpA_sreg [⟨1, _, _, _, cs⟩] [] (by simp) fun K hK => ?_); simp (disch := omega) only [kc, tZ, decF, sg_zero, CItem.a, prep1, Nat.reduceAdd, Hm, effR, Nat.reduceEqDiff, ifF, packT, ty_sz79, ty_agg79, Nat.le_refl, opS_call, newS, effA, List.find?_cons, evAll, norm, CallRes.plain, rawTV, rawAV, normOk, isPure, noRefTV, noRefAV, renTV, renAV, effM, ofConst, Value.oneCell', evBin, decT]; (with_reducible refine hK _ ?_))
      refine WpA_cond rfl (fun h => by simp at h) (fun _ => WpA_exit ?_)
      show WpA _ _ _ _
      have e : ((Int.gcd a b : Nat) : Int) = x := by rw [← hg, Int.gcd_zero_right]; omega
      rw [e]
      (refine WpA_sreg [] [] (by simp) fun K hK => ?_; simp (disch := omega) only [kc, prep1, effR, Nat.reduceEqDiff, ifF, decF, packT, ty_sz79, ty_agg79, Nat.reduceAdd, Nat.le_refl, opS_store, wrS, effD, cellsOf, isPure, ifT, putCells, killTV, killAV]; (with_reducible refine hK _ ?_))
      (refine WpA_ret ⟨.inr rfl, ret_now rfl ?_ rfl⟩; simp (disch := omega) only [kc, resA, Tryz.results181, resOne, updH, Nat.reduceEqDiff, ifF, packT, ty_sz79, ty_agg79, Nat.reduceAdd, Nat.le_refl, tZ, decF])
    · have hs := sg_ne h0
      have cr := Rem_C x y h0 sx sy
      have hlt := Int.emod_lt_of_pos x (show 0 < y by omega)
      have hnn := Int.emod_nonneg x h0
      (refine WpA_seq (WpA_sreg [⟨1, _, _, _, cs⟩] [] (by simp) fun K hK => ?_); simp (disch := omega) only [kc, tZ, decF, CItem.a, prep1, Nat.reduceAdd, Hm, effR, Nat.reduceEqDiff, ifF, packT, ty_sz79, ty_agg79, Nat.le_refl, opS_call, newS, effA, List.find?_cons, evAll, norm, CallRes.plain, rawTV, rawAV, normOk, isPure, noRefTV, noRefAV, renTV, renAV, effM, ofConst, Value.oneCell', evBin, Bool.not_false]; (with_reducible refine hK _ ?_))
      refine WpA_cond rfl (fun _ => WpA_skip ?_) (fun h => by simp at h <;> omega)
      refine WpA_block ?_
      ((refine WpA_ldraw mixedA [⟨3, _, _, _, cr⟩] [] (by kernel_rfl) (by simp) fun K hK => ?_); simp (disch := omega) only [kc, tZ, decF, CItem.a, prep1, Nat.reduceAdd, effR, Nat.reduceEqDiff, ifF, packT, ty_sz79, ty_agg79, Nat.le_refl, opS_call, newS, effA, List.find?_cons, evAll, norm, CallRes.plain, rawTV, rawAV, normOk, isPure, noRefTV, noRefAV, renTV, renAV, opS_store, wrS, effD, cellsOf, ifT, putCells, killTV, killAV, updH]; (with_reducible refine hK _ ?_))
      refine ⟨⟨y, x % y, hy, hnn, by rw [gcd_step hx hy, hg], sy, sy.le (by omega)⟩, by simp only; omega, Weak_sub ⟨rfl, by simp [updH, Hm, Int.not_lt.2 hy], by simp [updH, Hm, Int.not_lt.2 hnn], trivial⟩ ?_⟩
      simp [wkL, okTV, okAV]
abbrev tR (n d : Int) : TV := .agg [.p (.raw (.bool (decide (n < 0)))), .p (.sl (ls fU (limbs n.natAbs))), .p (.raw (.bool (decide (d < 0)))), .p (.sl (ls fU (limbs d.natAbs)))]
def cR (n d : Int) : List AV := [.p (.raw (.bool (decide (n < 0)))), .p (.sl (ls fU (limbs n.natAbs))), .p (.raw (.bool (decide (d < 0)))), .p (.sl (ls fU (limbs d.natAbs)))]
def nN (n d : Int) : Int := n / (Int.gcd n d : Nat)
def nD (n d : Int) : Int := d / (Int.gcd n d : Nat)
theorem gcd_posR {n d : Int} (hd : 0 < d) : 0 < Int.gcd n d := Int.gcd_pos_of_ne_zero_right n (by omega)
theorem nN_mul {n d : Int} : nN n d * (Int.gcd n d : Nat) = n := Int.ediv_mul_cancel (Int.gcd_dvd_left n d)
theorem nD_mul {n d : Int} : nD n d * (Int.gcd n d : Nat) = d := Int.ediv_mul_cancel (Int.gcd_dvd_right n d)
theorem nD_pos {n d : Int} (hd : 0 < d) : 0 < nD n d := by
  have h := nD_mul (n := n) (d := d)
  have hg := gcd_posR (n := n) hd
  rcases Int.lt_or_le 0 (nD n d) with h' | h'
  · exact h'
  · have := Int.mul_nonpos_of_nonpos_of_nonneg h' (show (0 : Int) ≤ (Int.gcd n d : Nat) by omega)
    omega
theorem n_floor {n d : Int} (hd : 0 < d) : nN n d / nD n d = n / d := by
  have hg := gcd_posR (n := n) hd
  have : nN n d * (Int.gcd n d : Nat) / (nD n d * (Int.gcd n d : Nat)) = nN n d / nD n d := Int.mul_ediv_mul_of_pos_left _ _ (by omega)
  rw [nN_mul, nD_mul] at this
  exact this.symm
theorem nN_sz {n d : Int} {k : Nat} (h : Sz n k) : Sz (nN n d) k := h.ediv _
theorem nD_sz {n d : Int} {k : Nat} (h : Sz d k) : Sz (nD n d) k := h.ediv _
set_option maxRecDepth 100000 in
set_option maxHeartbeats 8000000 in
theorem New_C (n d : Int) (hd0 : 0 < d) (hn : Bh n) (hd : Bh d) : CallC Tryz.prog 165 [tZ n, tZ d] ⟨[], .tup [(true, cR (nN n d) (nD n d)), (false, [.p (.raw (.bool true))])]⟩ := by
  have c1 := sign_C d hd.bg
  rw [sg_pos hd0] at c1
  have c2 := Gcd_C n d hn hd
  have hg := gcd_posR (n := n) hd0
  have sg : Bh (Int.gcd n d : Nat) := hd.le (by
    have := Nat.le_of_dvd (by omega) (Int.gcd_dvd_natAbs_right n d)
    omega)
  have c3 := Quo_C n (Int.gcd n d : Nat) (by omega) hn sg
  have c4 := Quo_C d (Int.gcd n d : Nat) (by omega) hd sg
  rw [show n / (Int.gcd n d : Nat) = nN n d from rfl] at c3
  rw [show d / (Int.gcd n d : Nat) = nD n d from rfl] at c4
  generalize ((Int.gcd n d : Nat) : Int) = g at *
  generalize nN n d = n' at *
  generalize nD n d = d' at *
  refine callC_of Tryz.func165 rfl (by kernel_rfl) ?_; rw [Tryz.ntmps165]
  (refine WpA_sreg [] [] (by simp) fun K hK => ?_; simp (disch := omega) only [kc, prep1, Nat.reduceAdd, tZ, decF, List.replicate, opS_box, newS, effA, cellsOf, isPure, ifT, updH, Nat.reduceEqDiff, opS_alloc, ty_zero132, Value.oneCell', ifF, ofConst]; (with_reducible refine hK _ ?_))
  (refine WpA_seq (WpA_sreg [⟨1, _, _, _, c1⟩] [] (by simp) fun K hK => ?_); simp (disch := omega) only [kc, tZ, decF, CItem.a, prep1, Nat.reduceAdd, effR, updH, Nat.reduceEqDiff, ifF, packT, ty_sz79, ty_agg79, Nat.le_refl, opS_call, newS, effA, List.find?_cons, evAll, norm, CallRes.plain, rawTV, rawAV, normOk, isPure, noRefTV, noRefAV, renTV, renAV, effM, ofConst, Value.oneCell', evBin]; (with_reducible refine hK _ ?_))
  refine WpA_cond rfl (fun h => by simp at h) (fun _ => WpA_skip ?_)
  show WpA _ _ _ _
  (refine WpA_seq (WpA_sreg [⟨1, _, _, _, c1⟩] [] (by simp) fun K hK => ?_); simp (disch := omega) only [kc, tZ, decF, CItem.a, prep1, Nat.reduceAdd, effR, updH, Nat.reduceEqDiff, ifF, packT, ty_sz79, ty_agg79, Nat.le_refl, opS_call, newS, effA, List.find?_cons, evAll, norm, CallRes.plain, rawTV, rawAV, normOk, isPure, noRefTV, noRefAV, renTV, renAV, effM, ofConst, Value.oneCell', evBin]; (with_reducible refine hK _ ?_))
  refine WpA_cond rfl (fun h => by simp at h) (fun _ => WpA_skip ?_)
  show WpA _ _ _ _
  (refine WpA_sreg [⟨2, _, _, _, c2⟩] [] (by simp) fun K hK => ?_; simp (disch := omega) only [kc, tZ, decF, CItem.a, prep1, Nat.reduceAdd, effR, updH, Nat.reduceEqDiff, ifF, packT, ty_sz79, ty_agg79, Nat.le_refl, opS_call, newS, effA, List.find?_cons, evAll, norm, CallRes.plain, rawTV, rawAV, normOk, isPure, noRefTV, noRefAV, renTV, renAV, opS_alloc, ty_zero79, Value.oneCell', ifT, opS_store, wrS, effD, cellsOf, putCells, killTV, killAV]; (with_reducible refine hK _ ?_))
  (refine WpA_sdraw mixedA [⟨2, _, _, _, c3⟩, ⟨5, _, _, _, c4⟩] [] (by kernel_rfl) (by simp) fun K hK => ?_; simp (disch := omega) only [kc, tZ, decF, CItem.a, prep1, Nat.reduceAdd, effR, updH, Nat.reduceEqDiff, ifF, packT, ty_sz79, ty_agg79, Nat.le_refl, opS_call, newS, effA, List.find?_cons, evAll, norm, CallRes.plain, rawTV, rawAV, normOk, isPure, noRefTV, noRefAV, renTV, renAV, Nat.reduceBEq, opS_build, ty_zero132, ty_plc132, Value.oneCell', fillA, cellsOf, Nat.reduceLeDiff, ifT, opS_store, wrS, effD, ty_sz132, putCells, killTV, killAV, ofConst]; (with_reducible refine hK _ ?_))
  (refine WpA_ret ⟨.inr rfl, ret_now rfl ?_ rfl⟩; simp (disch := omega) only [kc, resA, Tryz.results165, resL, resOne, updH, Nat.reduceEqDiff, ifF, packT, ty_sz132, ty_agg132, Nat.reduceAdd, Nat.le_refl, tvPair, cR])
set_option maxRecDepth 100000 in
set_option maxHeartbeats 8000000 in
theorem Normalize2_C (n d : Int) (hd0 : 0 < d) (hn : Bh n) (hd : Bh d) : CallC Tryz.prog 146 [tR n d] ⟨[], tR (nN n d) (nD n d)⟩ := by
  have c1 := New_C n d hd0 hn hd
  generalize nN n d = n' at *
  generalize nD n d = d' at *
  refine callC_of Tryz.func146 rfl (by kernel_rfl) ?_; rw [Tryz.ntmps146]
  (refine WpA_sreg [] [] (by simp) fun K hK => ?_; simp (disch := omega) only [kc, prep1, tR, decF, List.replicate, opS_box, newS, effA, cellsOf, isPure, Nat.reduceAdd, ifT, opS_alloc, ty_zero132, Value.oneCell', updH, Nat.reduceEqDiff]; (with_reducible refine hK _ ?_))
  (refine WpA_sreg [⟨4, _, _, _, c1⟩] [] (by simp) fun K hK => ?_; simp (disch := omega) only [kc, tZ, decF, cR, CItem.a, prep1, Nat.reduceAdd, opS_fieldAddr, effR, ty_fld132_0, ty_sz79, Nat.add_zero, updH, Nat.reduceEqDiff, packT, ty_agg79, Nat.reduceLeDiff, ty_fld132_1, Nat.le_refl, opS_call, newS, effA, List.find?_cons, evAll, norm, CallRes.plain, rawTV, rawAV, normOk, isPure, noRefTV, noRefAV, renTV, renAV, opS_extract, effM, opS_alloc, ty_zero132, Value.oneCell', ifT, ifF, opS_store, wrS, effD, ty_sz132, cellsOf, putCells, killTV, killAV]; (with_reducible refine hK _ ?_))
  (refine WpA_seq (WpA_sreg [] [] (by simp) fun K hK => ?_); simp (disch := omega) only [kc, prep1, opS_un, effM, evUn]; (with_reducible refine hK _ ?_))
  refine WpA_cond rfl (fun h => by simp at h) (fun _ => WpA_skip ?_)
  show WpA _ _ _ _
  (refine WpA_sreg [] [] (by simp) fun K hK => ?_; simp (disch := omega) only [kc, prep1, effR, updH, Nat.reduceEqDiff, ifF, packT, ty_sz132, ty_agg132, Nat.reduceAdd, Nat.le_refl, opS_store, wrS, effD, cellsOf, isPure, ifT, putCells, killTV, killAV]; (with_reducible refine hK _ ?_))
  (refine WpA_ret ⟨.inr rfl, ret_now rfl ?_ rfl⟩; simp (disch := omega) only [kc, resA, Tryz.results146, resOne, updH, Nat.reduceEqDiff, ifF, packT, ty_sz132, ty_agg132, Nat.reduceAdd, Nat.le_refl, tR])
set_option maxRecDepth 100000 in
set_option maxHeartbeats 8000000 in
theorem Half_C : CallC Tryz.prog 145 [] ⟨[], tR 1 2⟩ := by
  have c1 := small_C 1 (by omega) (by omega)
  have c2 := small_C 2 (by omega) (by omega)
  refine callC_of Tryz.func145 rfl (by kernel_rfl) ?_; rw [Tryz.ntmps145]
  (refine WpA_sreg [] [] (by simp) fun K hK => ?_; simp (disch := omega) only [kc, prep1, List.replicate, opS_alloc, newS, effA, ty_zero132, Value.oneCell', Nat.reduceAdd, ifT]; (with_reducible refine hK _ ?_))
  (refine WpA_sreg [⟨0, _, _, _, c1⟩, ⟨1, _, _, _, c2⟩] [] (by simp) fun K hK => ?_; simp (disch := omega) only [kc, tZ, decF, CItem.a, prep1, Nat.reduceAdd, opS_call, newS, effA, List.find?_cons, evAll, ofConst, Value.oneCell', norm, CallRes.plain, rawTV, rawAV, normOk, noRefTV, noRefAV, renTV, renAV, Nat.reduceBEq, opS_build, effR, ty_zero132, ty_plc132, fillA, cellsOf, Nat.reduceLeDiff, Nat.le_refl, ifT, opS_store, wrS, effD, ty_sz132, updH, isPure, putCells, killTV, killAV]; (with_reducible refine hK _ ?_))
  (refine WpA_ret ⟨.inr rfl, ret_now rfl ?_ rfl⟩; simp (disch := omega) only [kc, resA, Tryz.results145, resOne, updH, ifF, packT, ty_sz132, ty_agg132, Nat.reduceAdd, Nat.le_refl, tR, decF])
set_option maxRecDepth 100000 in
set_option maxHeartbeats 8000000 in
theorem Floor_C (n d : Int) (hd0 : 0 < d) (hn : Bh n) (hd : Bh d) : CallC Tryz.prog 143 [tR n d] ⟨[], tZ (n / d)⟩ := by
  have c1 := Normalize2_C n d hd0 hn hd
  have c2 := Quo_C (nN n d) (nD n d) (by have := nD_pos (n := n) hd0; omega) (nN_sz hn) (nD_sz hd)
  rw [n_floor hd0] at c2
  generalize nN n d = n' at *
  generalize nD n d = d' at *
  refine callC_of Tryz.func143 rfl (by kernel_rfl) ?_; rw [Tryz.ntmps143]
  (refine WpA_sreg [] [] (by simp) fun K hK => ?_; simp (disch := omega) only [kc, prep1, tR, decF, List.replicate, opS_box, newS, effA, cellsOf, isPure, Nat.reduceAdd, ifT, opS_alloc, ty_zero79, Value.oneCell', updH, Nat.reduceEqDiff]; (with_reducible refine hK _ ?_))
  (refine WpA_sreg [⟨1, _, _, _, c1⟩] [] (by simp) fun K hK => ?_; simp (disch := omega) only [kc, tR, decF, CItem.a, prep1, Nat.reduceAdd, effR, updH, Nat.reduceEqDiff, packT, ty_sz132, ty_agg132, Nat.le_refl, opS_call, newS, effA, List.find?_cons, evAll, norm, CallRes.plain, rawTV, rawAV, normOk, isPure, noRefTV, noRefAV, renTV, renAV, opS_alloc, ty_zero132, Value.oneCell', ifT, ifF, opS_store, wrS, effD, cellsOf, putCells, killTV, killAV]; (with_reducible refine hK _ ?_))
  (refine WpA_sreg [⟨4, _, _, _, c2⟩] [] (by simp) fun K hK => ?_; simp (disch := omega) only [kc, tZ, CItem.a, prep1, Nat.reduceAdd, opS_fieldAddr, effR, ty_fld132_0, ty_sz79, Nat.add_zero, updH, Nat.reduceEqDiff, ifF, packT, ty_agg79, Nat.reduceLeDiff, ty_fld132_1, Nat.le_refl, opS_call, newS, effA, List.find?_cons, evAll, norm, CallRes.plain, rawTV, rawAV, normOk, isPure, noRefTV, noRefAV, renTV, renAV, opS_store, wrS, effD, cellsOf, ifT, putCells, killTV, killAV]; (with_reducible refine hK _ ?_))
  (refine WpA_ret ⟨.inr rfl, ret_now rfl ?_ rfl⟩; simp (disch := omega) only [kc, resA, Tryz.results143, resOne, updH, Nat.reduceEqDiff, ifF, packT, ty_sz79, ty_agg79, Nat.reduceAdd, Nat.le_refl, tZ])
abbrev bxR0 : List OObj := [⟨132, 4, [[.raw (.bool false), .raw (.slice none 0 0), .raw (.bool false), .raw (.slice none 0 0)]]⟩]
abbrev bxR (n d : Int) : List OObj := [⟨132, 4, [[.p (.raw (.bool (decide (n < 0)))), .p (.sl (ls fU (limbs n.natAbs))), .p (.raw (.bool false)), .p (.sl (ls fU (limbs d.natAbs)))]]⟩]
set_option maxRecDepth 100000 in
set_option maxHeartbeats 8000000 in
theorem Add2_C (a b c d : Int) (hb0 : 0 < b) (hd0 : 0 < d) (ha : Sz a 100000000) (hb : Sz b 100000000) (hc : Sz c 100000000) (hd : Sz d 100000000) :
    CallC Tryz.prog 144 [tR a b, tR c d] ⟨[], tR (nN (nN a b * nD c d + nN c d * nD a b) (nD a b * nD c d)) (nD (nN a b * nD c d + nN c d * nD a b) (nD a b * nD c d))⟩ := by
  have c1 := Normalize2_C a b hb0 (ha.mono (by omega)) (hb.mono (by omega))
  have c2 := Normalize2_C c d hd0 (hc.mono (by omega)) (hd.mono (by omega))
  have sx : Sz (nN a b) 100000000 := nN_sz ha
  have sy : Sz (nD a b) 100000000 := nD_sz hb
  have su : Sz (nN c d) 100000000 := nN_sz hc
  have sv : Sz (nD c d) 100000000 := nD_sz hd
  have py := nD_pos (n := a) hb0
  have pv := nD_pos (n := c) hd0
  generalize nN a b = x at *
  generalize nD a b = y at *
  generalize nN c d = u at *
  generalize nD c d = v at *
  have z1 : Sz (x * v) 200000000 := (sx.mul sv).mono (by omega)
  have z2 : Sz (u * y) 200000000 := (su.mul sy).mono (by omega)
  have z3 : Sz (x * v + u * y) 200000001 := z1.add z2
  have z4 : Sz (y * v) 200000000 := (sy.mul sv).mono (by omega)
  have m1 := Mul_C x v (sx.mono (by omega)) (sv.mono (by omega))
  have m2 := Mul_C u y (su.mono (by omega)) (sy.mono (by omega))
  have m3 := Add_C (x * v) (u * y) (z1.mono (by omega)) (z2.mono (by omega))
  have m4 := Mul_C y v (sy.mono (by omega)) (sv.mono (by omega))
  have m5 := New_C (x * v + u * y) (y * v) (Int.mul_pos py pv) (z3.mono (by omega)) (z4.mono (by omega))
  generalize nN (x * v + u * y) (y * v) = rn at *
  generalize nD (x * v + u * y) (y * v) = rd at *
  refine callC_of Tryz.func144 rfl (by kernel_rfl) ?_; rw [Tryz.ntmps144]
  (refine WpA_sreg [] [] (by simp) fun K hK => ?_; simp (disch := omega) only [kc, prep1, Nat.reduceAdd, tR, decF, List.replicate, opS_box, newS, effA, cellsOf, isPure, ifT, updH, Nat.reduceEqDiff, opS_alloc, ty_zero132, Value.oneCell', ifF]; (with_reducible refine hK _ ?_))
  (refine WpA_sdraw mixedA [⟨1, _, _, _, c1⟩, ⟨3, _, _, _, c2⟩] [] (by kernel_rfl) (by simp) fun K hK => ?_; simp (disch := omega) only [kc, tR, decF, CItem.a, prep1, Nat.reduceAdd, effR, updH, Nat.reduceEqDiff, ifF, packT, ty_sz132, ty_agg132, Nat.le_refl, opS_call, newS, effA, List.find?_cons, evAll, norm, CallRes.plain, rawTV, rawAV, normOk, isPure, noRefTV, noRefAV, renTV, renAV, Nat.reduceBEq, opS_alloc, ty_zero132, Value.oneCell', ifT, opS_store, wrS, effD, cellsOf, putCells, killTV, killAV]; (with_reducible refine hK _ ?_))
  refine WpA.weak (Weak_sub (tm := [jk, jk, jk, jk, .one (.ptr 4 0 0 0), .one (.ptr 5 0 0 0), .one (.ptr 6 0 0 0), jk, jk, jk, jk, jk, jk, jk, jk, jk, jk, jk, jk, jk, jk, jk, jk, jk, jk, jk, jk, jk, jk, jk, jk, jk, jk, jk]) (l := [(4, bxR0), (5, bxR x y), (6, bxR u v)]) ⟨rfl, rfl, rfl, trivial⟩ (by simp [wkL, okTV, okAV])) ?_
  (refine WpA_sdraw mixedA [⟨4, _, _, _, m1⟩, ⟨9, _, _, _, m2⟩, ⟨10, _, _, _, m3⟩, ⟨15, _, _, _, m4⟩, ⟨16, _, _, _, m5⟩] [] (by kernel_rfl) (by simp) fun K hK => ?_; simp (disch := omega) only [kc, tZ, decF, cR, CItem.a, prep1, Nat.reduceAdd, Hm, opS_fieldAddr, effR, ty_fld132_0, ty_sz79, Nat.add_zero, Nat.reduceEqDiff, ifF, packT, ty_agg79, Nat.reduceLeDiff, ty_fld132_1, Nat.le_refl, opS_call, newS, effA, List.find?_cons, evAll, norm, CallRes.plain, rawTV, rawAV, normOk, isPure, noRefTV, noRefAV, renTV, renAV, Nat.reduceBEq, opS_extract, effM, opS_alloc, ty_zero132, Value.oneCell', ifT, opS_store, wrS, effD, ty_sz132, updH, cellsOf, putCells, killTV, killAV]; (with_reducible refine hK _ ?_))
  (refine WpA_sreg [] [] (by simp) fun K hK => ?_; simp (disch := omega) only [kc, prep1, effR, updH, Nat.reduceEqDiff, ifF, packT, ty_sz132, ty_agg132, Nat.reduceAdd, Nat.le_refl, opS_store, wrS, effD, cellsOf, isPure, ifT, putCells, killTV, killAV]; (with_reducible refine hK _ ?_))
  (refine WpA_ret ⟨.inr rfl, ret_now rfl ?_ rfl⟩; simp (disch := omega) only [kc, resA, Tryz.results144, resOne, updH, Nat.reduceEqDiff, ifF, packT, ty_sz132, ty_agg132, Nat.reduceAdd, Nat.le_refl, tR])
theorem near_eq {p q : Int} (hq : 0 < q) : nN (nN p q * nD 1 2 + nN 1 2 * nD p q) (nD p q * nD 1 2) / nD (nN p q * nD 1 2 + nN 1 2 * nD p q) (nD p q * nD 1 2) = (2 * p + q) / (2 * q) := by
  have e1 : nN 1 2 = 1 := by decide
  have e2 : nD 1 2 = 2 := by decide
  have hp := nD_pos (n := p) hq
  rw [e1, e2, n_floor (by omega)]
  have hg := gcd_posR (n := p) hq
  have a1 := nN_mul (n := p) (d := q)
  have a2 := nD_mul (n := p) (d := q)
  have : (nN p q * 2 + 1 * nD p q) * (Int.gcd p q : Nat) / ((nD p q * 2) * (Int.gcd p q : Nat)) = (nN p q * 2 + 1 * nD p q) / (nD p q * 2) := Int.mul_ediv_mul_of_pos_left _ _ (by omega)
  rw [← this]
  congr 1
  · rw [Int.add_mul, Int.one_mul, Int.mul_right_comm, a1, a2]; omega
  · rw [Int.mul_right_comm, a2]; omega
set_option maxRecDepth 100000 in
set_option maxHeartbeats 8000000 in
theorem Nearest_C (p q : Int) (hq0 : 0 < q) (hp : Sz p 100000000) (hq : Sz q 100000000) : CallC Tryz.prog 107 [tR p q] ⟨[], tZ ((2 * p + q) / (2 * q))⟩ := by
  have c2 := Add2_C p q 1 2 hq0 (by omega) hp hq (sz_one (by omega)) (sz_lt (by decide) (by omega))
  have hx : Sz (nN p q) 100000000 := nN_sz hp
  have hy : Sz (nD p q) 100000000 := nD_sz hq
  have hyp := nD_pos (n := p) hq0
  have e1 : nN 1 2 = 1 := by decide
  have e2 : nD 1 2 = 2 := by decide
  have z2 : Sz (2 : Int) 1 := sz_lt (by decide) (by omega)
  have zn : Sz (nN p q * nD 1 2 + nN 1 2 * nD p q) 100000002 := by
    rw [e1, e2]
    refine Sz.add (k := 100000001) ((hx.mul z2).mono (by omega)) ?_
    rw [Int.one_mul]
    exact hy.mono (by omega)
  have zd : Sz (nD p q * nD 1 2) 100000001 := by rw [e2]; exact (hy.mul z2).mono (by omega)
  have c3 := Floor_C (nN (nN p q * nD 1 2 + nN 1 2 * nD p q) (nD p q * nD 1 2)) (nD (nN p q * nD 1 2 + nN 1 2 * nD p q) (nD p q * nD 1 2)) (nD_pos (by rw [e2]; omega)) ((nN_sz zn).mono (by omega)) ((nD_sz zd).mono (by omega))
  rw [near_eq hq0] at c3
  generalize nN (nN p q * nD 1 2 + nN 1 2 * nD p q) (nD p q * nD 1 2) = rn at *
  generalize nD (nN p q * nD 1 2 + nN 1 2 * nD p q) (nD p q * nD 1 2) = rd at *
  have c1 := Half_C
  refine callC_of Tryz.func107 rfl (by kernel_rfl) ?_; rw [Tryz.ntmps107]
  (refine WpA_sreg [] [] (by simp) fun K hK => ?_; simp (disch := omega) only [kc, prep1, tR, decF, List.replicate, opS_box, newS, effA, cellsOf, isPure, Nat.reduceAdd, ifT, opS_alloc, ty_zero79, Value.oneCell', updH, Nat.reduceEqDiff]; (with_reducible refine hK _ ?_))
  (refine WpA_sdraw mixedA [⟨1, _, _, _, c1⟩, ⟨2, _, _, _, c2⟩, ⟨3, _, _, _, c3⟩] [] (by kernel_rfl) (by simp) fun K hK => ?_; simp (disch := omega) only [kc, tR, decF, tZ, CItem.a, prep1, Nat.reduceAdd, effR, updH, Nat.reduceEqDiff, packT, ty_sz132, ty_agg132, Nat.le_refl, opS_call, newS, effA, List.find?_cons, evAll, CallRes.plain, rawTV, rawAV, noRefTV, noRefAV, renTV, renAV, Nat.reduceBEq, norm, normOk, isPure, opS_store, wrS, effD, ty_sz79, cellsOf, ifT, putCells, killTV, killAV]; (with_reducible refine hK _ ?_))
  (refine WpA_ret ⟨.inr rfl, ret_now rfl ?_ rfl⟩; simp (disch := omega) only [kc, resA, Tryz.results107, resOne, updH, Nat.reduceEqDiff, ifF, packT, ty_sz79, ty_agg79, Nat.reduceAdd, Nat.le_refl, tZ])
set_option maxRecDepth 100000 in
set_option maxHeartbeats 8000000 in
theorem Quotient_C (p q : Int) (hq0 : 0 < q) (hp : Bh p) (hq : Bh q) : CallC Tryz.prog 108 [tZ p, tZ q] ⟨[], tR (nN p q) (nD p q)⟩ := by
  have c1 := Normalize2_C p q hq0 hp hq
  generalize nN p q = n' at *
  generalize nD p q = d' at *
  refine callC_of Tryz.func108 rfl (by kernel_rfl) ?_; rw [Tryz.ntmps108]
  (refine WpA_sreg [] [] (by simp) fun K hK => ?_; simp (disch := omega) only [kc, prep1, Nat.reduceAdd, tZ, decF, List.replicate, opS_box, newS, effA, cellsOf, isPure, ifT, updH, Nat.reduceEqDiff, opS_alloc, ty_zero132, Value.oneCell', ifF]; (with_reducible refine hK _ ?_))
  (refine WpA_sreg [⟨3, _, _, _, c1⟩] [] (by simp) fun K hK => ?_; simp (disch := omega) only [kc, tR, decF, CItem.a, prep1, Nat.reduceAdd, effR, updH, Nat.reduceEqDiff, ifF, packT, ty_sz79, ty_agg79, Nat.le_refl, opS_build, ty_zero132, ty_plc132, Value.oneCell', fillA, cellsOf, Nat.reduceLeDiff, ifT, opS_call, newS, effA, List.find?_cons, evAll, norm, CallRes.plain, rawTV, rawAV, normOk, isPure, noRefTV, noRefAV, renTV, renAV, opS_store, wrS, effD, ty_sz132, putCells, killTV, killAV]; (with_reducible refine hK _ ?_))
  (refine WpA_ret ⟨.inr rfl, ret_now rfl ?_ rfl⟩; simp (disch := omega) only [kc, resA, Tryz.results108, resOne, updH, Nat.reduceEqDiff, ifF, packT, ty_sz132, ty_agg132, Nat.reduceAdd, Nat.le_refl, tR])
def qF (l d : Int) : Int := (2 * l + d) / (2 * d)
theorem qF_n {l d : Int} (hd : 0 < d) : (2 * nN l d + nD l d) / (2 * nD l d) = qF l d := by
  have hg := gcd_posR (n := l) hd
  have a1 := nN_mul (n := l) (d := d)
  have a2 := nD_mul (n := l) (d := d)
  have : (2 * nN l d + nD l d) * (Int.gcd l d : Nat) / ((2 * nD l d) * (Int.gcd l d : Nat)) = (2 * nN l d + nD l d) / (2 * nD l d) := Int.mul_ediv_mul_of_pos_left _ _ (by omega)
  rw [← this, qF]
  congr 1
  · rw [Int.add_mul, Int.mul_assoc, a1, a2]
  · rw [Int.mul_assoc, a2]
end Go.Proofs.YtobnpabndpmabaaGreat
namespace Go.Proofs.YtobnpabndpmabaaGreat
open Go.RowKit
def trF (f : Nat → Nat → Int) : Nat → Nat → Int := fun a b => f b a
def ptT (f : Nat → Nat → Int) (i j : Nat) : Nat → Nat → Int := fun a b => if b < i ∨ (b = i ∧ a < j) then f b a else 0
theorem ptT_step (f : Nat → Nat → Int) (i j a b : Nat) : upd (ptT f i j) j i (f i j) a b = ptT f i (j + 1) a b := by
  unfold upd ptT
  by_cases h1 : a = j
  · subst h1
    by_cases h2 : b = i
    · subst h2; simp
    · simp [h2]
  · have : a < j + 1 ↔ a < j := by omega
    simp [h1, this]
theorem ptT_row {c : Nat} (f : Nat → Nat → Int) (i a b : Nat) (ha : a < c) : ptT f i c a b = ptT f (i + 1) 0 a b := by
  unfold ptT
  have : (b < i ∨ b = i ∧ a < c) ↔ (b < i + 1 ∨ b = i + 1 ∧ a < 0) := by omega
  simp only [this]
theorem ptT_end {n : Nat} (f : Nat → Nat → Int) (a b : Nat) (hb : b < n) : ptT f n 0 a b = trF f a b := by
  unfold ptT trF; rw [if_pos (.inl hb)]
theorem ptT_zero (f : Nat → Nat → Int) : ptT f 0 0 = fun _ _ => 0 := by
  funext a b; unfold ptT; rw [if_neg (by omega)]
set_option maxRecDepth 100000 in
set_option maxHeartbeats 8000000 in
theorem Transpose_C (n c : Nat) (f : Nat → Nat → Int) (hn1 : 1 ≤ n) (hn : n ≤ 16) (hc1 : 1 ≤ c) (hc : c ≤ 16) (hf : ∀ i j : Nat, i < n → j < c → Bg (f i j)) :
    CallC Tryz.prog 97 [slM (mat n c f)] ⟨[], .tup [(false, [.p (.sl (ls (fR fZ) (mat c n (trF f))))]), (false, [.p (.raw (.bool true))])]⟩ := by
  have hS := Shape_C (mat n c f)
  rw [shT_yes (mat_ShP f hn1 hn hc1 hc), mat_len, mat_head f hn1] at hS
  have hml := mat_len n c f
  have hZ := Zero_C c n hc hn
  rw [mat_rep, mxF_eq] at hZ
  refine callC_of Tryz.func97 rfl (by kernel_rfl) ?_; rw [Tryz.ntmps97]
  (refine WpA_sreg [] [] (by simp) fun K hK => ?_; simp (disch := omega) only [kc, prep1, slM, List.replicate, ofConst, Value.oneCell']; (with_reducible refine hK _ ?_))
  (refine WpA_sreg [⟨1, _, _, _, hS⟩] [] (by simp) fun K hK => ?_; simp (disch := omega) only [kc, slM, CItem.a, prep1, Nat.reduceAdd, opS_call, newS, effA, List.find?_cons, evAll, norm, CallRes.plain, rawTV, rawAV, normOk, noRefTV, noRefAV, renTV, renAV, opS_extract, effM]; (with_reducible refine hK _ ?_))
  (refine WpA_seq (WpA_sreg [] [] (by simp) fun K hK => ?_); simp (disch := omega) only [kc, prep1, opS_un, effM, evUn]; (with_reducible refine hK _ ?_))
  refine WpA_cond rfl (fun h => by simp at h) (fun _ => WpA_skip ?_)
  show WpA _ _ _ _
  (refine WpA_sreg [⟨2, _, _, _, hZ⟩] [] (by simp) fun K hK => ?_; simp (disch := omega) only [kc, CItem.a, prep1, Nat.reduceAdd, opS_call, newS, effA, List.find?_cons, evAll, norm, CallRes.plain, List.isEmpty_cons, rawTV, rawAV, normOk, Bool.not_false, noRefTV, noRefAV, Bool.or_false, renTV, renAV, renO]; (with_reducible refine hK _ ?_))
  (refine WpA_seq (WpA_sreg [] [] (by simp) fun K hK => ?_); simp (disch := omega) only [kc, prep1, Nat.reduceAdd, opS_len, effR, ty_slice50, ls_len, hml, ofConst, Value.oneCell']; (with_reducible refine hK _ ?_))
  refine WpA_forb (G := FiG n) (fun g => ⟨[slM (mat n c f), jk, jk, jk, jk, jk, jk, .one (.sl 20 0 0 c), jk, jk, jk, jk, jk, jk, jk, jk, jk, jk, jk, jk, jk, jk, .raw (.int .i64 (n : Int)), .raw (.int .i64 (g.i : Int)), jk, jk, jk, jk, jk, jk, jk, jk, jk, jk, jk, jk, jk, jk, jk, jk, jk, jk, jk, jk, jk, jk, jk, jk, jk, jk, jk], Hm [(20, mxF 20 c n (ptT f g.i 0))]⟩) (fun g => n - g.i) ⟨0, by omega⟩ ?_ ?_
  · refine Weak_sub ⟨?_, trivial⟩ ?_
    · rw [ptT_zero]; exact mxF_ren 0 20 c n _
    · simp [wkL, okTV, okAV]
  · rintro ⟨i, hi⟩
    simp only
    by_cases hm : i < n
    · have hr := mat_get c f hm
      (refine WpA_sreg [] [] (by simp) fun K hK => ?_; simp (disch := omega) only [kc, prep1, slM, Hm, effM, evBin, decT]; (with_reducible refine hK _ ?_))
      refine WpA_seq (WpA_cond rfl (fun _ => WpA_skip ?_) (fun h => by simp at h <;> omega))
      refine WpA_seq (WpA_block ?_)
      (refine WpA_sreg [] [] (by simp) fun K hK => ?_; simp (disch := omega) only [kc, prep1]; (with_reducible refine hK _ ?_))
      (refine WpA_sreg [] [] (by simp) fun K hK => ?_; simp (disch := omega) only [kc, prep1, Nat.reduceAdd, opS_indexAddr, effR, natOf_pos, ty_slice50, ls_get, hr, fR, ty_sz122, packT, ty_agg122, opS_len, ty_slice122, ls_len, rowF_len, ofConst, Value.oneCell']; (with_reducible refine hK _ ?_))
      refine WpA_forb (G := FiG c) (fun g => ⟨[slM (mat n c f), jk, jk, jk, jk, jk, jk, .one (.sl 20 0 0 c), .raw (.int .i64 (i : Int)), jk, jk, jk, jk, jk, jk, jk, jk, jk, jk, jk, jk, jk, .raw (.int .i64 (n : Int)), .raw (.int .i64 (i : Int)), jk, jk, jk, jk, jk, jk, .raw (.int .i64 (c : Int)), .raw (.int .i64 (g.i : Int)), jk, jk, jk, jk, jk, jk, jk, jk, jk, jk, jk, jk, jk, jk, jk, jk, jk, jk, jk], Hm [(20, mxF 20 c n (ptT f i g.i))]⟩) (fun g => c - g.i) ⟨0, by omega⟩ ?_ ?_
      · refine Weak_sub ⟨rfl, trivial⟩ ?_
        simp [wkL, okTV, okAV]
      · rintro ⟨j, hj⟩
        simp only
        by_cases hm3 : j < c
        · have hjr := rowF_get (f i) hm3
          have hS := norm_C (f i j) (hf i j hm hm3)
          have g1 := spn_get (n := c) (i := j) 20 n hm3
          have g2 := mxr_get n (ptT f i j) hm3
          have g3 := rowF_get (ptT f i j j) hm
          (refine WpA_sreg [] [] (by simp) fun K hK => ?_; simp (disch := omega) only [kc, prep1, slM, Hm, effM, evBin, decT]; (with_reducible refine hK _ ?_))
          refine WpA_seq (WpA_cond rfl (fun _ => WpA_skip ?_) (fun h => by simp at h <;> omega))
          refine WpA_seq (WpA_block ?_)
          (refine WpA_sreg [] [] (by simp) fun K hK => ?_; simp (disch := omega) only [kc, prep1]; (with_reducible refine hK _ ?_))
          ((refine WpA_ldraw mixedA [⟨12, _, _, _, hS⟩] [] (by kernel_rfl) (by simp) fun K hK => ?_); simp (disch := omega) only [kc, tZ, CItem.a, prep1, Nat.reduceAdd, opS_indexAddr, effR, natOf_pos, ty_slice50, ty_sz122, ifT, g1, packT, ty_agg122, ls_get, hr, fR, ty_slice122, hjr, fZ, ty_sz79, ty_agg79, Nat.le_refl, opS_call, newS, effA, List.find?_cons, evAll, norm, CallRes.plain, rawTV, rawAV, normOk, isPure, noRefTV, noRefAV, renTV, renAV, g2, opS_store, wrS, effD, lc_get, g3, cellsOf, putCells, mxr_set, killTV, killAV]; (with_reducible refine hK _ ?_))
          show WpA _ _ _ _
          ((refine WpA_lreg [] [] (by simp) fun K hK => ?_); simp (disch := omega) only [kc, prep1, effM, ofConst, Value.oneCell', evBin, wrapI]; (with_reducible refine hK _ ?_))
          refine ⟨⟨j + 1, by omega⟩, by simp only; omega, Weak_sub ⟨?_, trivial⟩ ?_⟩
          · show _ :: _ = _ :: _
            rw [mxr_congr fun a b _ _ => ptT_step f i j a b]
          · simp [wkL, okTV, okAV]
        · have hjc : j = c := by omega
          subst hjc
          (refine WpA_sreg [] [] (by simp) fun K hK => ?_; simp (disch := omega) only [kc, prep1, slM, Hm, effM, evBin, decF]; (with_reducible refine hK _ ?_))
          refine WpA_seq (WpA_cond rfl (fun h => by simp at h <;> omega) (fun _ => WpA_exit ?_))
          show WpA _ _ _ _
          ((refine WpA_lreg [] [] (by simp) fun K hK => ?_); simp (disch := omega) only [kc, prep1, effM, ofConst, Value.oneCell', evBin, wrapI]; (with_reducible refine hK _ ?_))
          refine ⟨⟨i + 1, by omega⟩, by simp only; omega, Weak_sub ⟨?_, trivial⟩ ?_⟩
          · show _ :: _ = _ :: _
            rw [mxr_congr fun a b ha _ => ptT_row f i a b ha]
          · simp [wkL, okTV, okAV]
    · have hin : i = n := by omega
      subst hin
      (refine WpA_sreg [] [] (by simp) fun K hK => ?_; simp (disch := omega) only [kc, prep1, slM, Hm, effM, evBin, decF]; (with_reducible refine hK _ ?_))
      refine WpA_seq (WpA_cond rfl (fun h => by simp at h <;> omega) (fun _ => WpA_exit ?_))
      show WpA _ _ _ _
      have e : mxF 20 c i (ptT f i 0) = mxF 20 c i (trF f) := by
        show _ :: _ = _ :: _
        rw [mxr_congr fun a b _ hb => ptT_end f a b hb]
      rw [e]
      refine WpA.weak ((Weak_fz 20 (fzOk_mx rfl)).trans (Weak_sub (tm := [jk, jk, jk, jk, jk, jk, jk, slM (mat c i (trF f)), jk, jk, jk, jk, jk, jk, jk, jk, jk, jk, jk, jk, jk, jk, jk, jk, jk, jk, jk, jk, jk, jk, jk, jk, jk, jk, jk, jk, jk, jk, jk, jk, jk, jk, jk, jk, jk, jk, jk, jk, jk, jk, jk]) (l := []) trivial (by simp [wkL, okTV, okAV]; exact (fzM (H := Hm [(20, mxF 20 c i (trF f))]) (d := 20) (n := c) (c := i) (f := trF f) rfl).symm))) ?_
      (refine WpA_sreg [] [] (by simp) fun K hK => ?_; simp (disch := omega) only [kc, prep1, Nat.reduceAdd, slM, Hm, ofConst, Value.oneCell']; (with_reducible refine hK _ ?_))
      (refine WpA_ret ⟨.inr rfl, ret_now rfl ?_ rfl⟩; simp (disch := omega) only [resA, Tryz.results97, resL, resOne, List.getElem?_cons_succ, List.getElem?_cons_zero, Option.bind_some, tvPair, Option.map_some])
def idF : Nat → Nat → Int := fun a b => if a = b then 1 else 0
def ptI (i : Nat) : Nat → Nat → Int := fun a b => if a < i ∧ a = b then 1 else 0
theorem ptI_step (i a b : Nat) : upd (ptI i) i i 1 a b = ptI (i + 1) a b := by
  unfold upd ptI
  by_cases h1 : a = i
  · subst h1
    by_cases h2 : b = a
    · subst h2; simp
    · simp [h2, Ne.symm h2]
  · have : a < i + 1 ↔ a < i := by omega
    simp [h1, this]
theorem ptI_end {n : Nat} (a b : Nat) (ha : a < n) : ptI n a b = idF a b := by unfold ptI idF; simp [ha]
theorem ptI_zero : ptI 0 = fun _ _ => 0 := by funext a b; unfold ptI; rw [if_neg (by omega)]
set_option maxRecDepth 100000 in
set_option maxHeartbeats 8000000 in
theorem Identity_C (n : Nat) (hn1 : 1 ≤ n) (hn : n ≤ 16) :
    CallC Tryz.prog 60 [.raw (.int .i64 (n : Int))] ⟨mxF 0 n n idF, .tup [(false, [.sl 0 0 0 n]), (false, [.p (.raw (.bool true))])]⟩ := by
  have hZ := Zero_C n n hn hn
  rw [mat_rep, mxF_eq] at hZ
  have hS := small_C 1 (by omega) (by omega)
  refine callC_of Tryz.func60 rfl (by kernel_rfl) ?_; rw [Tryz.ntmps60]
  (refine WpA_sreg [] [] (by simp) fun K hK => ?_; simp (disch := omega) only [kc, prep1, List.replicate, ofConst, Value.oneCell']; (with_reducible refine hK _ ?_))
  (refine WpA_seq (WpA_sreg [] [] (by simp) fun K hK => ?_); simp (disch := omega) only [kc, prep1, Nat.reduceAdd, effM, ofConst, Value.oneCell', evBin, decF, stS_guard, ifT, opS_pick]; (with_reducible refine hK _ ?_))
  refine WpA_cond rfl (fun h => by simp at h <;> omega) (fun _ => WpA_skip ?_)
  show WpA _ _ _ _
  (refine WpA_sreg [⟨2, _, _, _, hZ⟩] [] (by simp) fun K hK => ?_; simp (disch := omega) only [kc, CItem.a, prep1, Nat.reduceAdd, opS_call, newS, effA, List.find?_cons, evAll, norm, CallRes.plain, List.isEmpty_cons, rawTV, rawAV, normOk, Bool.not_false, noRefTV, noRefAV, Bool.or_false, renTV, renAV, renO]; (with_reducible refine hK _ ?_))
  (refine WpA_seq (WpA_sreg [] [] (by simp) fun K hK => ?_); simp (disch := omega) only [kc, prep1, Nat.reduceAdd, opS_len, effR, ty_slice50, ofConst, Value.oneCell']; (with_reducible refine hK _ ?_))
  refine WpA_forb (G := FiG n) (fun g => ⟨[jk, jk, jk, jk, .one (.sl 14 0 0 n), jk, jk, jk, jk, jk, jk, jk, jk, jk, jk, jk, .raw (.int .i64 (n : Int)), .raw (.int .i64 (g.i : Int)), jk, jk, jk, jk, jk, jk, jk, jk, jk, jk, jk], Hm [(14, mxF 14 n n (ptI g.i))]⟩) (fun g => n - g.i) ⟨0, by omega⟩ ?_ ?_
  · refine Weak_sub ⟨?_, trivial⟩ ?_
    · rw [ptI_zero]; exact mxF_ren 0 14 n n _
    · simp [wkL, okTV, okAV]
  · rintro ⟨i, hi⟩
    simp only
    by_cases hm : i < n
    · have g1 := spn_get (n := n) (i := i) 14 n hm
      have g2 := mxr_get n (ptI i) hm
      have g3 := rowF_get (ptI i i) hm
      have e1 := mxr_set (n := n) (i := i) (j := i) n (ptI i) 1
      (refine WpA_sreg [] [] (by simp) fun K hK => ?_; simp (disch := omega) only [kc, prep1, Hm, effM, evBin, decT]; (with_reducible refine hK _ ?_))
      refine WpA_seq (WpA_cond rfl (fun _ => WpA_skip ?_) (fun h => by simp at h <;> omega))
      refine WpA_seq (WpA_block ?_)
      (refine WpA_sreg [] [] (by simp) fun K hK => ?_; simp (disch := omega) only [kc, prep1]; (with_reducible refine hK _ ?_))
      ((refine WpA_ldraw mixedA [⟨5, _, _, _, hS⟩] [] (by kernel_rfl) (by simp) fun K hK => ?_); simp (disch := omega) only [kc, tZ, decF, CItem.a, prep1, Nat.reduceAdd, opS_indexAddr, effR, natOf_pos, ty_slice50, ty_sz122, ifT, g1, packT, ty_agg122, opS_call, newS, effA, List.find?_cons, evAll, ofConst, Value.oneCell', norm, CallRes.plain, rawTV, rawAV, normOk, noRefTV, noRefAV, renTV, renAV, ty_slice122, g2, ty_sz79, opS_store, wrS, effD, lc_get, fZ, g3, cellsOf, Nat.le_refl, isPure, putCells, killTV, killAV]; (with_reducible refine hK _ ?_))
      show WpA _ _ _ _
      ((refine WpA_lreg [] [] (by simp) fun K hK => ?_); simp (disch := omega) only [kc, prep1, effM, ofConst, Value.oneCell', evBin, wrapI]; (with_reducible refine hK _ ?_))
      refine ⟨⟨i + 1, by omega⟩, by simp only; omega, Weak_sub ⟨?_, trivial⟩ ?_⟩
      · show _ :: _ = _ :: _
        rw [← mxr_congr fun a b _ _ => ptI_step i a b]
        congr 1
      · simp [wkL, okTV, okAV]
    · have hin : i = n := by omega
      subst hin
      (refine WpA_sreg [] [] (by simp) fun K hK => ?_; simp (disch := omega) only [kc, prep1, Hm, effM, evBin, decF]; (with_reducible refine hK _ ?_))
      refine WpA_seq (WpA_cond rfl (fun h => by simp at h <;> omega) (fun _ => WpA_exit ?_))
      show WpA _ _ _ _
      have e : mxF 14 i i (ptI i) = mxF 14 i i idF := by
        show _ :: _ = _ :: _
        rw [mxr_congr fun a b ha _ => ptI_end a b ha]
      rw [e]
      (refine WpA_sreg [] [] (by simp) fun K hK => ?_; simp (disch := omega) only [kc, prep1, Nat.reduceAdd, ofConst, Value.oneCell']; (with_reducible refine hK _ ?_))
      refine WpA_ret ⟨.inr rfl, _, Weak.refl _, ?_⟩
      refine ⟨.tup [(false, [.sl 14 0 0 i]), (false, [.p (.raw (.bool true))])], 14, ?_, ?_, ?_, rfl⟩
      · simp (disch := omega) only [resA, Tryz.results60, resL, resOne, List.getElem?_cons_succ, List.getElem?_cons_zero, Option.bind_some, tvPair, Option.map_some]
      · intro t ht x hx
        simp at ht
        rcases ht with rfl | rfl <;> (simp at hx; subst hx) <;> first | rfl | trivial
      · exact (mxF_ren 14 0 _ _ _).symm
def mulF (k : Nat) (f g : Nat → Nat → Int) : Nat → Nat → Int := fun i j => accZ (rowF k (f i)) (rowF k (trF g j)) k
set_option maxRecDepth 100000 in
set_option maxHeartbeats 8000000 in
theorem Mul_M (n k m : Nat) (f g : Nat → Nat → Int) (hn1 : 1 ≤ n) (hn : n ≤ 16) (hk1 : 1 ≤ k) (hk : k ≤ 16) (hm1 : 1 ≤ m) (hmm : m ≤ 16) (hf : ∀ i j : Nat, i < n → j < k → Sz (f i j) 16777216) (hg : ∀ i j : Nat, i < k → j < m → Sz (g i j) 16777216) :
    CallC Tryz.prog 112 [slM (mat n k f), slM (mat k m g)] ⟨[], .tup [(false, [.p (.sl (ls (fR fZ) (mat n m (mulF k f g))))]), (false, [.p (.raw (.bool true))])]⟩ := by
  have hS := Shape_C (mat n k f)
  rw [shT_yes (mat_ShP f hn1 hn hk1 hk), mat_len, mat_head f hn1] at hS
  have hT := Transpose_C k m g hk1 hk hm1 hmm (fun i j hi hj => (hg i j hi hj).mono (by omega))
  have hml := mat_len n k f
  have hml2 := mat_len k m g
  have hml3 := mat_len m k (trF g)
  have hZ := Zero_C n m hn hmm
  rw [mat_rep, mxF_eq] at hZ
  refine callC_of Tryz.func112 rfl (by kernel_rfl) ?_; rw [Tryz.ntmps112]
  (refine WpA_sreg [] [] (by simp) fun K hK => ?_; simp (disch := omega) only [kc, prep1, slM, Nat.reduceAdd, List.replicate, ofConst, Value.oneCell']; (with_reducible refine hK _ ?_))
  (refine WpA_sreg [⟨1, _, _, _, hS⟩] [] (by simp) fun K hK => ?_; simp (disch := omega) only [kc, slM, CItem.a, prep1, Nat.reduceAdd, opS_call, newS, effA, List.find?_cons, evAll, norm, CallRes.plain, rawTV, rawAV, normOk, noRefTV, noRefAV, renTV, renAV, opS_extract, effM]; (with_reducible refine hK _ ?_))
  (refine WpA_sreg [⟨1, _, _, _, hT⟩] [] (by simp) fun K hK => ?_; simp (disch := omega) only [kc, slM, CItem.a, prep1, Nat.reduceAdd, opS_call, newS, effA, List.find?_cons, evAll, norm, CallRes.plain, rawTV, rawAV, normOk, noRefTV, noRefAV, renTV, renAV, opS_extract, effM]; (with_reducible refine hK _ ?_))
  (refine WpA_seq (WpA_sreg [] [] (by simp) fun K hK => ?_); simp (disch := omega) only [kc, prep1, Nat.reduceAdd, opS_un, effM, evUn, stS_guard, opS_pick, opS_len, effR, ty_slice50, ls_len, hml2, evBin, decT, ifT]; (with_reducible refine hK _ ?_))
  refine WpA_cond rfl (fun h => by simp at h <;> omega) (fun _ => WpA_skip ?_)
  show WpA _ _ _ _
  (refine WpA_sreg [⟨4, _, _, _, hZ⟩] [] (by simp) fun K hK => ?_; simp (disch := omega) only [kc, CItem.a, prep1, Nat.reduceAdd, opS_len, effR, ty_slice50, ls_len, hml, hml3, opS_call, newS, effA, List.find?_cons, evAll, norm, CallRes.plain, List.isEmpty_cons, rawTV, rawAV, normOk, Bool.not_false, noRefTV, noRefAV, Bool.or_false, renTV, renAV, renO]; (with_reducible refine hK _ ?_))
  (refine WpA_seq (WpA_sreg [] [] (by simp) fun K hK => ?_); simp (disch := omega) only [kc, prep1, Nat.reduceAdd, opS_len, effR, ty_slice50, ls_len, hml, ofConst, Value.oneCell']; (with_reducible refine hK _ ?_))
  refine WpA_forb (G := FiG n) (fun q => ⟨[slM (mat n k f), jk, jk, jk, jk, jk, jk, jk, jk, slM (mat m k (trF g)), jk, .one (.sl 41 0 0 n), jk, jk, jk, jk, jk, jk, jk, jk, jk, jk, jk, jk, jk, jk, jk, jk, jk, jk, jk, jk, jk, jk, jk, jk, jk, jk, jk, jk, jk, jk, jk, .raw (.int .i64 (n : Int)), .raw (.int .i64 (q.i : Int)), jk, jk, jk, jk, jk, jk, jk, jk, jk, jk, jk, jk, jk, jk, jk, jk, jk, jk, jk, jk, jk, jk, jk, jk, jk], Hm [(41, mxF 41 n m (part (mulF k f g) q.i 0))]⟩) (fun q => n - q.i) ⟨0, by omega⟩ ?_ ?_
  · refine Weak_sub ⟨?_, trivial⟩ ?_
    · rw [part_zero]; exact mxF_ren 0 41 n m _
    · simp [wkL, okTV, okAV]
  · rintro ⟨i, hi⟩
    simp only
    by_cases him : i < n
    · have hr := mat_get k f him
      (refine WpA_sreg [] [] (by simp) fun K hK => ?_; simp (disch := omega) only [kc, prep1, slM, Hm, effM, evBin, decT]; (with_reducible refine hK _ ?_))
      refine WpA_seq (WpA_cond rfl (fun _ => WpA_skip ?_) (fun h => by simp at h <;> omega))
      refine WpA_seq (WpA_block ?_)
      (refine WpA_sreg [] [] (by simp) fun K hK => ?_; simp (disch := omega) only [kc, prep1]; (with_reducible refine hK _ ?_))
      (refine WpA_sreg [] [] (by simp) fun K hK => ?_; simp (disch := omega) only [kc, prep1, Nat.reduceAdd, opS_len, effR, ty_slice50, ls_len, hml3, ofConst, Value.oneCell']; (with_reducible refine hK _ ?_))
      refine WpA_forb (G := FiG m) (fun q => ⟨[slM (mat n k f), jk, jk, jk, jk, jk, jk, jk, jk, slM (mat m k (trF g)), jk, .one (.sl 41 0 0 n), .raw (.int .i64 (i : Int)), jk, jk, jk, jk, jk, jk, jk, jk, jk, jk, jk, jk, jk, jk, jk, jk, jk, jk, jk, jk, jk, jk, jk, jk, jk, jk, jk, jk, jk, jk, .raw (.int .i64 (n : Int)), .raw (.int .i64 (i : Int)), jk, jk, jk, .raw (.int .i64 (m : Int)), .raw (.int .i64 (q.i : Int)), jk, jk, jk, jk, jk, jk, jk, jk, jk, jk, jk, jk, jk, jk, jk, jk, jk, jk, jk, jk], Hm [(41, mxF 41 n m (part (mulF k f g) i q.i))]⟩) (fun q => m - q.i) ⟨0, by omega⟩ ?_ ?_
      · refine Weak_sub ⟨rfl, trivial⟩ ?_
        simp [wkL, okTV, okAV]
      · rintro ⟨j, hj⟩
        simp only
        by_cases hm3 : j < m
        · have hr2 := mat_get k (trF g) hm3
          have hD := Dot_C (rowF k (f i)) (rowF k (trF g j)) (by rw [rowF_len]; omega) (by rw [rowF_len, rowF_len]; omega) (fun z hz => by
            obtain ⟨p, hp, rfl⟩ := List.mem_map.1 hz
            exact hf i p him (List.mem_range.1 hp)) (fun z hz => by
            obtain ⟨p, hp, rfl⟩ := List.mem_map.1 hz
            exact (hg p j (List.mem_range.1 hp) hm3).mono (by omega))
          rw [rowF_len, show accZ (rowF k (f i)) (rowF k (trF g j)) k = mulF k f g i j from rfl] at hD
          have g1 := spn_get (n := n) (i := i) 41 m him
          have g2 := mxr_get m (part (mulF k f g) i j) him
          have g3 := rowF_get (part (mulF k f g) i j i) hm3
          (refine WpA_sreg [] [] (by simp) fun K hK => ?_; simp (disch := omega) only [kc, prep1, slM, Hm, effM, evBin, decT]; (with_reducible refine hK _ ?_))
          refine WpA_seq (WpA_cond rfl (fun _ => WpA_skip ?_) (fun h => by simp at h <;> omega))
          refine WpA_seq (WpA_block ?_)
          (refine WpA_sreg [] [] (by simp) fun K hK => ?_; simp (disch := omega) only [kc, prep1]; (with_reducible refine hK _ ?_))
          ((refine WpA_ldraw mixedA [⟨13, _, _, _, hD⟩] [] (by kernel_rfl) (by simp) fun K hK => ?_); simp (disch := omega) only [kc, slZ, tZ, CItem.a, prep1, Nat.reduceAdd, opS_indexAddr, effR, natOf_pos, ty_slice50, ty_sz122, ifT, g1, packT, ty_agg122, ls_get, hr, fR, hr2, opS_call, newS, effA, List.find?_cons, evAll, norm, CallRes.plain, rawTV, rawAV, normOk, noRefTV, noRefAV, renTV, renAV, ty_slice122, g2, ty_sz79, opS_store, wrS, effD, lc_get, fZ, g3, cellsOf, Nat.le_refl, isPure, putCells, mxr_set, killTV, killAV]; (with_reducible refine hK _ ?_))
          show WpA _ _ _ _
          ((refine WpA_lreg [] [] (by simp) fun K hK => ?_); simp (disch := omega) only [kc, prep1, effM, ofConst, Value.oneCell', evBin, wrapI]; (with_reducible refine hK _ ?_))
          refine ⟨⟨j + 1, by omega⟩, by simp only; omega, Weak_sub ⟨?_, trivial⟩ ?_⟩
          · show _ :: _ = _ :: _
            rw [mxr_congr fun a b _ _ => part_step (mulF k f g) i j a b]
          · simp [wkL, okTV, okAV]
        · have hjc : j = m := by omega
          subst hjc
          (refine WpA_sreg [] [] (by simp) fun K hK => ?_; simp (disch := omega) only [kc, prep1, slM, Hm, effM, evBin, decF]; (with_reducible refine hK _ ?_))
          refine WpA_seq (WpA_cond rfl (fun h => by simp at h <;> omega) (fun _ => WpA_exit ?_))
          show WpA _ _ _ _
          ((refine WpA_lreg [] [] (by simp) fun K hK => ?_); simp (disch := omega) only [kc, prep1, effM, ofConst, Value.oneCell', evBin, wrapI]; (with_reducible refine hK _ ?_))
          refine ⟨⟨i + 1, by omega⟩, by simp only; omega, Weak_sub ⟨?_, trivial⟩ ?_⟩
          · show _ :: _ = _ :: _
            rw [mxr_congr fun a b _ hb => part_row (mulF k f g) i a b hb]
          · simp [wkL, okTV, okAV]
    · have hin : i = n := by omega
      subst hin
      (refine WpA_sreg [] [] (by simp) fun K hK => ?_; simp (disch := omega) only [kc, prep1, slM, Hm, effM, evBin, decF]; (with_reducible refine hK _ ?_))
      refine WpA_seq (WpA_cond rfl (fun h => by simp at h <;> omega) (fun _ => WpA_exit ?_))
      show WpA _ _ _ _
      have e : mxF 41 i m (part (mulF k f g) i 0) = mxF 41 i m (mulF k f g) := by
        show _ :: _ = _ :: _
        rw [mxr_congr fun a b ha _ => part_end (mulF k f g) a b ha]
      rw [e]
      refine WpA.weak ((Weak_fz 41 (fzOk_mx rfl)).trans (Weak_sub (tm := [jk, jk, jk, jk, jk, jk, jk, jk, jk, jk, jk, slM (mat i m (mulF k f g)), jk, jk, jk, jk, jk, jk, jk, jk, jk, jk, jk, jk, jk, jk, jk, jk, jk, jk, jk, jk, jk, jk, jk, jk, jk, jk, jk, jk, jk, jk, jk, jk, jk, jk, jk, jk, jk, jk, jk, jk, jk, jk, jk, jk, jk, jk, jk, jk, jk, jk, jk, jk, jk, jk, jk, jk, jk, jk]) (l := []) trivial (by simp [wkL, okTV, okAV]; exact (fzM (H := Hm [(41, mxF 41 i m (mulF k f g))]) (d := 41) (n := i) (c := m) (f := mulF k f g) rfl).symm))) ?_
      (refine WpA_sreg [] [] (by simp) fun K hK => ?_; simp (disch := omega) only [kc, prep1, Nat.reduceAdd, slM, Hm, ofConst, Value.oneCell']; (with_reducible refine hK _ ?_))
      (refine WpA_ret ⟨.inr rfl, ret_now rfl ?_ rfl⟩; simp (disch := omega) only [resA, Tryz.results112, resL, resOne, List.getElem?_cons_succ, List.getElem?_cons_zero, Option.bind_some, tvPair, Option.map_some])
set_option maxRecDepth 100000 in
set_option maxHeartbeats 8000000 in
theorem Product_M (n k m : Nat) (f g : Nat → Nat → Int) (hn1 : 1 ≤ n) (hn : n ≤ 16) (hk1 : 1 ≤ k) (hk : k ≤ 16) (hm1 : 1 ≤ m) (hmm : m ≤ 16) (hf : ∀ i j : Nat, i < n → j < k → Sz (f i j) 16777216) (hg : ∀ i j : Nat, i < k → j < m → Sz (g i j) 16777216) :
    CallC Tryz.prog 62 [slM (mat n k f), slM (mat k m g)] ⟨[], slM (mat n m (mulF k f g))⟩ := by
  have hM := Mul_M n k m f g hn1 hn hk1 hk hm1 hmm hf hg
  refine callC_of Tryz.func62 rfl (by kernel_rfl) ?_; rw [Tryz.ntmps62]
  (refine WpA_sreg [] [] (by simp) fun K hK => ?_; simp (disch := omega) only [kc, prep1, slM, Nat.reduceAdd, List.replicate, ofConst, Value.oneCell']; (with_reducible refine hK _ ?_))
  (refine WpA_sreg [⟨2, _, _, _, hM⟩] [] (by simp) fun K hK => ?_; simp (disch := omega) only [kc, slM, CItem.a, prep1, Nat.reduceAdd, opS_call, newS, effA, List.find?_cons, evAll, norm, CallRes.plain, rawTV, rawAV, normOk, noRefTV, noRefAV, renTV, renAV, opS_extract, effM]; (with_reducible refine hK _ ?_))
  (refine WpA_sreg [] [] (by simp) fun K hK => ?_; simp (disch := omega) only [kc, prep1]; (with_reducible refine hK _ ?_))
  (refine WpA_ret ⟨.inr rfl, ret_now rfl ?_ rfl⟩; simp (disch := omega) only [resA, Tryz.results62, resOne, List.getElem?_cons_succ, List.getElem?_cons_zero, slM])
theorem mulF_sz {k : Nat} {f g : Nat → Nat → Int} {b c i j : Nat} (hf : ∀ p, p < k → Sz (f i p) b) (hg : ∀ p, p < k → Sz (g p j) c) : Sz (mulF k f g i j) (b + c + k) := by
  refine accZ_sz (getD_sz fun z hz => ?_) (getD_sz fun z hz => ?_) k
  · obtain ⟨p, hp, rfl⟩ := List.mem_map.1 hz
    exact hf p (List.mem_range.1 hp)
  · obtain ⟨p, hp, rfl⟩ := List.mem_map.1 hz
    exact hg p (List.mem_range.1 hp)
def cngF (n : Nat) (h t : Nat → Nat → Int) : Nat → Nat → Int := mulF n (mulF n (trF t) h) t
set_option maxRecDepth 100000 in
set_option maxHeartbeats 8000000 in
theorem Congruent_C (n : Nat) (h t : Nat → Nat → Int) (hn1 : 1 ≤ n) (hn : n ≤ 16) (hh : ∀ i j : Nat, i < n → j < n → Sz (h i j) 500) (ht : ∀ i j : Nat, i < n → j < n → Sz (t i j) 500) :
    CallC Tryz.prog 51 [slM (mat n n h), slM (mat n n t)] ⟨[], slM (mat n n (cngF n h t))⟩ := by
  have c1 := Transpose_C n n t hn1 hn hn1 hn (fun i j hi hj => (ht i j hi hj).mono (by omega))
  have c2 := Product_M n n n (trF t) h hn1 hn hn1 hn hn1 hn (fun i j hi hj => (ht j i hj hi).mono (by omega)) (fun i j hi hj => (hh i j hi hj).mono (by omega))
  have c3 := Product_M n n n (mulF n (trF t) h) t hn1 hn hn1 hn hn1 hn (fun i j hi hj => (mulF_sz (b := 500) (c := 500) (fun p hp => ht p i hp hi) (fun p hp => hh p j hp hj)).mono (by omega)) (fun i j hi hj => (ht i j hi hj).mono (by omega))
  refine callC_of Tryz.func51 rfl (by kernel_rfl) ?_; rw [Tryz.ntmps51]
  (refine WpA_sreg [] [] (by simp) fun K hK => ?_; simp (disch := omega) only [kc, prep1, slM, Nat.reduceAdd, List.replicate, ofConst, Value.oneCell']; (with_reducible refine hK _ ?_))
  (refine WpA_sreg [⟨1, _, _, _, c1⟩] [] (by simp) fun K hK => ?_; simp (disch := omega) only [kc, slM, CItem.a, prep1, Nat.reduceAdd, opS_call, newS, effA, List.find?_cons, evAll, norm, CallRes.plain, rawTV, rawAV, normOk, noRefTV, noRefAV, renTV, renAV, opS_extract, effM]; (with_reducible refine hK _ ?_))
  (refine WpA_sreg [⟨2, _, _, _, c2⟩, ⟨4, _, _, _, c3⟩] [] (by simp) fun K hK => ?_; simp (disch := omega) only [kc, slM, CItem.a, prep1, Nat.reduceAdd, opS_call, newS, effA, List.find?_cons, evAll, norm, CallRes.plain, rawTV, rawAV, normOk, noRefTV, noRefAV, renTV, renAV, Nat.reduceBEq]; (with_reducible refine hK _ ?_))
  (refine WpA_ret ⟨.inr rfl, ret_now rfl ?_ rfl⟩; simp (disch := omega) only [resA, Tryz.results51, resOne, List.getElem?_cons_succ, List.getElem?_cons_zero, slM, cngF])
end Go.Proofs.YtobnpabndpmabaaGreat
namespace Go.Proofs.YtobnpabndpmabaaGreat
def smF (F : Nat → Int) : Nat → Int
  | 0 => 0
  | k + 1 => smF F k + F k
theorem smF_congr {F G : Nat → Int} : ∀ k, (∀ p, p < k → F p = G p) → smF F k = smF G k
  | 0, _ => rfl
  | k + 1, h => by rw [smF, smF, smF_congr k (fun p hp => h p (by omega)), h k (by omega)]
theorem smF_add (F G : Nat → Int) : ∀ k, smF (fun p => F p + G p) k = smF F k + smF G k
  | 0 => rfl
  | k + 1 => by rw [smF, smF, smF, smF_add F G k]; omega
theorem smF_zero : ∀ k, smF (fun _ => 0) k = 0
  | 0 => rfl
  | k + 1 => by rw [smF, smF_zero k]; rfl
theorem smF_one {F : Nat → Int} {a : Nat} : ∀ {k}, a < k → (∀ p, p < k → p ≠ a → F p = 0) → smF F k = F a
  | k + 1, h, h0 => by
    by_cases e : a = k
    · subst e
      rw [smF, smF_congr a (G := fun _ => 0) (fun p hp => h0 p (by omega) (by omega)), smF_zero]; omega
    · rw [smF, smF_one (show a < k by omega) (fun p hp hn => h0 p (by omega) hn), h0 k (by omega) (by omega)]; omega
theorem accZ_sum {k : Nat} (x y : Nat → Int) : ∀ l, l ≤ k → accZ (rowF k x) (rowF k y) l = smF (fun p => x p * y p) l
  | 0, _ => rfl
  | l + 1, h => by
    show accZ (rowF k x) (rowF k y) l + (rowF k x).getD l 0 * (rowF k y).getD l 0 = _
    rw [accZ_sum x y l (by omega), List.getD_eq_getElem?_getD, List.getD_eq_getElem?_getD, rowF_get _ (by omega), rowF_get _ (by omega)]
    rfl
theorem mulF_sum (k : Nat) (f g : Nat → Nat → Int) (i j : Nat) : mulF k f g i j = smF (fun p => f i p * g p j) k := accZ_sum _ _ k (Nat.le_refl _)
def adT (i j : Nat) (c : Int) : Nat → Nat → Int := upd idF j i c
def swT (m : Nat) : Nat → Nat → Int := fun a => idF (sgm m a)
theorem sgm_sgm (m a : Nat) : sgm m (sgm m a) = a := by
  unfold sgm
  by_cases h1 : a = m
  · subst h1; simp
  · by_cases h2 : a = m + 1
    · subst h2; simp
    · simp [h1, h2]
theorem adT_eq {i j : Nat} {c : Int} (hji : j ≠ i) (p b : Nat) : adT i j c p b = idF p b + (if p = j then (if b = i then c else 0) else 0) := by
  unfold adT upd idF
  by_cases h1 : p = j
  · subst h1
    by_cases h2 : b = i
    · subst h2; simp [hji]
    · simp [h2]
  · simp [h1]
theorem sum_id {n : Nat} {y : Nat → Int} {b : Nat} (hb : b < n) : smF (fun p => y p * idF p b) n = y b := by
  rw [smF_one hb (fun p hp hn => by simp [idF, hn])]; simp [idF]
theorem mul_ad {n i j : Nat} {c : Int} (hji : j ≠ i) (hj : j < n) (x : Nat → Nat → Int) (a b : Nat) (hb : b < n) : mulF n x (adT i j c) a b = x a b + (if b = i then c * x a j else 0) := by
  rw [mulF_sum, smF_congr n (G := fun p => x a p * idF p b + x a p * (if p = j then (if b = i then c else 0) else 0)) (fun p _ => by rw [adT_eq hji, Int.mul_add]), smF_add, sum_id hb]
  congr 1
  rw [smF_one hj (fun p _ hn => by simp [hn])]
  by_cases h : b = i
  · simp [h, Int.mul_comm]
  · simp [h]
theorem ad_mul {n i j : Nat} {c : Int} (hji : j ≠ i) (hj : j < n) (x : Nat → Nat → Int) (a b : Nat) (ha : a < n) : mulF n (trF (adT i j c)) x a b = x a b + (if a = i then c * x j b else 0) := by
  have := mul_ad (c := c) hji hj (trF x) b a ha
  rw [mulF_sum] at this ⊢
  rw [smF_congr n (G := fun p => trF x b p * adT i j c p a) (fun p _ => by rw [Int.mul_comm]; rfl), this]
  rfl
theorem cng_add {n i j : Nat} {c : Int} (hji : j ≠ i) (hj : j < n) (f : Nat → Nat → Int) (a b : Nat) (ha : a < n) (hb : b < n) : cngF n f (adT i j c) a b = addF f i j c a b := by
  unfold cngF
  rw [mul_ad hji hj _ a b hb, ad_mul hji hj f a b ha, ad_mul hji hj f a j ha]
  unfold addF
  by_cases h1 : a = i
  · by_cases h2 : b = i
    · simp only [h1, h2, if_true]; grind
    · simp only [h1, h2, if_true, if_false]; grind
  · by_cases h2 : b = i
    · simp only [h1, h2, if_true, if_false]; grind
    · simp only [h1, h2, if_false]; omega
theorem idF_sgm (m p b : Nat) : idF (sgm m p) b = idF p (sgm m b) := by
  unfold idF
  have : sgm m p = b ↔ p = sgm m b := ⟨fun h => by rw [← h, sgm_sgm], fun h => by rw [h, sgm_sgm]⟩
  simp only [this]
theorem mul_sw {n m : Nat} (hm : m + 1 < n) (x : Nat → Nat → Int) (a b : Nat) (hb : b < n) : mulF n x (swT m) a b = x a (sgm m b) := by
  rw [mulF_sum, smF_congr n (G := fun p => x a p * idF p (sgm m b)) (fun p _ => by rw [← idF_sgm]; rfl), sum_id (sgm_lt hm hb)]
theorem sw_mul {n m : Nat} (hm : m + 1 < n) (x : Nat → Nat → Int) (a b : Nat) (ha : a < n) : mulF n (trF (swT m)) x a b = x (sgm m a) b := by
  have := mul_sw hm (trF x) b a ha
  rw [mulF_sum] at this ⊢
  rw [smF_congr n (G := fun p => trF x b p * swT m p a) (fun p _ => by rw [Int.mul_comm]; rfl), this]
  rfl
theorem cng_sw {n m : Nat} (hm : m + 1 < n) (f : Nat → Nat → Int) (a b : Nat) (ha : a < n) (hb : b < n) : cngF n f (swT m) a b = swF f m a b := by
  unfold cngF
  rw [mul_sw hm _ a b hb, sw_mul hm f a _ ha]; rfl
/-! Which change is made. -/
inductive Ch where
  | add (i j : Nat)
  | swp (m : Nat)
instance (f : Nat → Nat → Int) (i j : Nat) : Decidable (SizF f i j) := by unfold SizF; exact inferInstance
instance (f : Nat → Nat → Int) (i : Nat) : Decidable (LovF f i) := by unfold LovF; exact inferInstance
def scanJ (f : Nat → Nat → Int) (i : Nat) : Nat → Option Nat
  | 0 => none
  | j + 1 => if SizF f i j then scanJ f i j else some j
def scanI (f : Nat → Nat → Int) : Nat → Nat → Option Ch
  | 0, _ => none
  | m + 1, i => match scanJ f i i with
    | some j => some (.add i j)
    | none => if 0 < i ∧ ¬ LovF f i then some (.swp (i - 1)) else scanI f m (i + 1)
def scanF (f : Nat → Nat → Int) (n : Nat) : Option Ch := scanI f n 0
theorem scanJ_none {f : Nat → Nat → Int} {i : Nat} : ∀ {k}, scanJ f i k = none → ∀ j, j < k → SizF f i j
  | k + 1, h, j, hj => by
    unfold scanJ at h
    split at h
    · rename_i hs
      by_cases e : j = k
      · subst e; exact hs
      · exact scanJ_none h j (by omega)
    · cases h
theorem scanJ_some {f : Nat → Nat → Int} {i j : Nat} : ∀ {k}, scanJ f i k = some j → j < k ∧ ¬ SizF f i j ∧ ∀ j', j < j' → j' < k → SizF f i j'
  | k + 1, h => by
    unfold scanJ at h
    split at h
    · rename_i hs
      obtain ⟨h1, h2, h3⟩ := scanJ_some h
      refine ⟨by omega, h2, fun j' g1 g2 => ?_⟩
      by_cases e : j' = k
      · subst e; exact hs
      · exact h3 j' g1 (by omega)
    · rename_i hs
      injection h with h
      subst h
      exact ⟨by omega, hs, fun j' g1 g2 => by omega⟩
def RowOk (f : Nat → Nat → Int) (i : Nat) : Prop := (∀ j, j < i → SizF f i j) ∧ (0 < i → LovF f i)
theorem scanI_none {f : Nat → Nat → Int} : ∀ {m i}, scanI f m i = none → ∀ i', i ≤ i' → i' < i + m → RowOk f i'
  | 0, i, _, i', h1, h2 => by omega
  | m + 1, i, h, i', h1, h2 => by
    unfold scanI at h
    split at h
    · cases h
    · rename_i hj
      split at h
      · cases h
      · rename_i hl
        by_cases e : i' = i
        · subst e
          exact ⟨scanJ_none hj, fun h0 => by
            by_cases hL : LovF f i'
            · exact hL
            · exact absurd ⟨h0, hL⟩ hl⟩
        · exact scanI_none h i' (by omega) (by omega)
def Fst (f : Nat → Nat → Int) : Ch → Prop
  | .add i j => j < i ∧ ¬ SizF f i j ∧ (∀ j', j < j' → j' < i → SizF f i j') ∧ ∀ i', i' < i → RowOk f i'
  | .swp m => ¬ LovF f (m + 1) ∧ (∀ j, j < m + 1 → SizF f (m + 1) j) ∧ ∀ i', i' < m + 1 → RowOk f i'
def chTop : Ch → Nat
  | .add i _ => i
  | .swp m => m + 1
theorem scanI_some {f : Nat → Nat → Int} {c : Ch} : ∀ {m i}, (∀ i', i' < i → RowOk f i') → scanI f m i = some c → Fst f c ∧ chTop c < i + m
  | m + 1, i, hi, h => by
    unfold scanI at h
    split at h
    · rename_i j hj
      injection h with h
      subst h
      obtain ⟨h1, h2, h3⟩ := scanJ_some hj
      exact ⟨⟨h1, h2, h3, hi⟩, by simp [chTop]⟩
    · rename_i hj
      split at h
      · rename_i hl
        injection h with h
        subst h
        have e : i - 1 + 1 = i := by omega
        refine ⟨⟨by rw [e]; exact hl.2, by rw [e]; exact scanJ_none hj, by rw [e]; exact hi⟩, by simp [chTop]; omega⟩
      · rename_i hl
        have := scanI_some (m := m) (i := i + 1) (fun i' h' => by
          by_cases e : i' = i
          · subst e
            exact ⟨scanJ_none hj, fun h0 => by
              by_cases hL : LovF f i'
              · exact hL
              · exact absurd ⟨h0, hL⟩ hl⟩
          · exact hi i' (by omega)) h
        exact ⟨this.1, by omega⟩
theorem scanF_some {f : Nat → Nat → Int} {n : Nat} {c : Ch} (h : scanF f n = some c) : Fst f c ∧ chTop c < n := by
  have := scanI_some (f := f) (m := n) (i := 0) (fun i' h => by omega) h
  exact ⟨this.1, by omega⟩
theorem scanF_none {f : Nat → Nat → Int} {n : Nat} (h : scanF f n = none) : RefF f n := fun i hi => scanI_none (m := n) (i := 0) h i (by omega) (by omega)
def tri2 (i : Nat) : Nat := i * (i - 1) / 2
def rankC : Ch → Nat
  | .add i j => tri2 i + (i - 1 - j)
  | .swp m => tri2 (m + 2)
theorem tri2_succ (i : Nat) : tri2 (i + 1) = tri2 i + i := by
  unfold tri2
  cases i with
  | zero => rfl
  | succ i =>
    rw [Nat.add_sub_cancel, Nat.add_sub_cancel]
    have : (i + 1 + 1) * (i + 1) = (i + 1) * i + 2 * (i + 1) := by rw [Nat.add_mul, Nat.one_mul, Nat.mul_add, Nat.mul_add, Nat.add_mul]; omega
    rw [this, Nat.add_mul_div_left _ _ (by omega)]
theorem tri2_mono {i j : Nat} (h : i ≤ j) : tri2 i ≤ tri2 j := by
  induction j with
  | zero => have : i = 0 := by omega
            subst this; exact Nat.le_refl _
  | succ j ih =>
    by_cases e : i = j + 1
    · subst e; exact Nat.le_refl _
    · have := ih (by omega); rw [tri2_succ]; omega
def rankF (f : Nat → Nat → Int) (n : Nat) : Nat := match scanF f n with
  | some c => rankC c
  | none => tri2 n
theorem rankF_le (f : Nat → Nat → Int) (n : Nat) : rankF f n ≤ tri2 n := by
  unfold rankF
  split
  · rename_i c hc
    obtain ⟨h1, h2⟩ := scanF_some hc
    cases c with
    | add i j =>
      have h2 : i < n := h2
      have := tri2_mono (show i + 1 ≤ n by omega)
      rw [tri2_succ] at this
      obtain ⟨h1, _⟩ := h1
      simp only [rankC]; omega
    | swp m =>
      have h2 : m + 1 < n := h2
      exact tri2_mono (show m + 2 ≤ n by omega)
  · exact Nat.le_refl _
theorem rank_gt {f : Nat → Nat → Int} {n i j : Nat} (hj : j < i) (hi : i < n) (h1 : ∀ i', i' < i → RowOk f i') (h2 : ∀ j', j ≤ j' → j' < i → SizF f i j') : tri2 i + (i - 1 - j) < rankF f n := by
  have hni := tri2_mono (show i + 1 ≤ n by omega)
  rw [tri2_succ] at hni
  unfold rankF
  split
  · rename_i c hc
    obtain ⟨g1, g2⟩ := scanF_some hc
    cases c with
    | add i' j' =>
      obtain ⟨a1, a2, a3, a4⟩ := g1
      simp only [rankC]
      rcases Nat.lt_trichotomy i' i with h | h | h
      · exact absurd ((h1 i' h).1 j' a1) a2
      · subst h
        by_cases e : j ≤ j'
        · exact absurd (h2 j' e a1) a2
        · omega
      · have := tri2_mono (show i + 1 ≤ i' by omega)
        rw [tri2_succ] at this
        omega
    | swp m =>
      obtain ⟨a1, a2, a3⟩ := g1
      simp only [rankC]
      by_cases h : m + 1 < i
      · exact absurd ((h1 (m + 1) h).2 (by omega)) a1
      · have := tri2_mono (show i + 1 ≤ m + 2 by omega)
        rw [tri2_succ] at this
        omega
  · omega
end Go.Proofs.YtobnpabndpmabaaGreat
namespace Go.Proofs.YtobnpabndpmabaaGreat
theorem abs_step {B : Nat} {d1 d0 x y u v : Int} (h1 : 0 < d1) (h0 : d0.natAbs ≤ B) (h : d1 * x = d0 * y + u * v) : x.natAbs ≤ B * y.natAbs + u.natAbs * v.natAbs := by
  have e1 : d1.natAbs * x.natAbs = (d0 * y + u * v).natAbs := by rw [← Int.natAbs_mul, h]
  have e2 := Int.natAbs_add_le (d0 * y) (u * v)
  rw [Int.natAbs_mul, Int.natAbs_mul] at e2
  have e3 : d0.natAbs * y.natAbs ≤ B * y.natAbs := Nat.mul_le_mul_right _ h0
  have e4 : x.natAbs ≤ d1.natAbs * x.natAbs := Nat.le_mul_of_pos_left _ (by omega)
  omega
theorem nat_step {d1 d0 x y l : Int} (h1 : 0 < d1) (h0 : 0 < d0) (hx : 0 < x) (hy : 0 < y) (h : d1 * x = d0 * y + l * l) : d1.natAbs * x.natAbs = d0.natAbs * y.natAbs + l.natAbs * l.natAbs := by
  apply Int.ofNat_inj.1
  rw [Int.natCast_add, Int.natCast_mul, Int.natCast_mul, Int.natCast_mul, Int.natAbs_of_nonneg (by omega), Int.natAbs_of_nonneg (by omega), Int.natAbs_of_nonneg (by omega), Int.natAbs_of_nonneg (by omega), Int.natAbs_mul_self', h]
structure Def (f : Nat → Nat → Int) (n B : Nat) : Prop where
  sym : SymF f n
  pos : ∀ t, t < n → 0 < dk f (t + 1)
  le : ∀ k, k ≤ n → (dk f k).natAbs ≤ B
section
variable {f : Nat → Nat → Int} {n B : Nat}
theorem Def.ne (h : Def f n B) : ∀ t, t < n → dk f (t + 1) ≠ 0 := fun t ht => by have := h.pos t ht; omega
theorem Def.pos0 (h : Def f n B) {k : Nat} (hk : k ≤ n) : 0 < dk f k := by
  cases k with
  | zero => rw [dk_zero]; omega
  | succ k => exact h.pos k (by omega)
theorem Def.sylv (h : Def f n B) {k a b : Nat} (hk : k < n) (ha : a < n) (hb : b < n) : dk f (k + 1) * bk f k a b = dk f k * bk f (k + 1) a b + bk f k a k * bk f k b k := by
  have s := Go.Proofs.YtobnpabndpmabaaGreat.sylv f k (fun t ht => h.ne t (by omega)) a b
  rw [bk_sym h.sym k (by omega) (fun t ht => h.ne t (by omega)) k b hk hb] at s
  omega
theorem Def.diag (h : Def f n B) {a : Nat} (ha : a < n) : ∀ m k, a - k = m → k ≤ a → 0 < bk f k a a
  | 0, k, hm, hk => by
    have : k = a := by omega
    subst this
    rw [← dk_succ]; exact h.pos k ha
  | m + 1, k, hm, hk => by
    have ih := h.diag ha m (k + 1) (by omega) (by omega)
    have s := h.sylv (k := k) (by omega) ha ha
    have p1 := h.pos k (by omega)
    have p0 := h.pos0 (k := k) (by omega)
    have q1 := Int.mul_pos p0 ih
    have q2 : 0 ≤ bk f k a k * bk f k a k := by
      rcases Int.le_total 0 (bk f k a k) with h | h
      · exact Int.mul_nonneg h h
      · exact Int.mul_nonneg_of_nonpos_of_nonpos h h
    rcases Int.lt_or_le 0 (bk f k a a) with h | h
    · exact h
    · have := Int.mul_nonpos_of_nonneg_of_nonpos (Int.le_of_lt p1) h
      omega
theorem Def.down (h : Def f n B) {a k : Nat} (ha : a < n) (hk : k < a) : (bk f k a k).natAbs * (bk f k a k).natAbs ≤ B * (bk f k a a).natAbs ∧ (bk f (k + 1) a a).natAbs ≤ B * (bk f k a a).natAbs := by
  have s := nat_step (h.pos k (by omega)) (h.pos0 (k := k) (by omega)) (h.diag ha _ k rfl (by omega)) (h.diag ha _ (k + 1) rfl (by omega)) (h.sylv (k := k) (by omega) ha ha)
  have hB := Nat.mul_le_mul_right (bk f k a a).natAbs (h.le (k + 1) (by omega))
  have p0 := h.pos0 (k := k) (by omega)
  have := Nat.le_mul_of_pos_left (bk f (k + 1) a a).natAbs (show 0 < (dk f k).natAbs by omega)
  omega
theorem Def.nm (h : Def f n B) {a : Nat} (ha : a < n) : ∀ k, k ≤ a → (bk f k a a).natAbs ≤ B ^ k * (f a a).natAbs
  | 0, _ => by rw [bk_zero]; simp
  | k + 1, hk => by
    have h1 := (h.down ha (show k < a by omega)).2
    have h2 := Nat.mul_le_mul_left B (h.nm ha k (by omega))
    rw [Nat.pow_succ, Nat.mul_comm (B ^ k) B, Nat.mul_assoc]
    omega
theorem Def.lam_le (h : Def f n B) {a k C : Nat} (ha : a < n) (hk : k < a) (hB : 1 ≤ B) (hC : (f a a).natAbs ≤ C) : (bk f k a k).natAbs ≤ B ^ n * C := by
  have h1 := (h.down ha hk).1
  have h2 := Nat.mul_le_mul_left B (h.nm ha k (by omega))
  have h3 : (bk f k a k).natAbs ≤ (bk f k a k).natAbs * (bk f k a k).natAbs := Nat.le_mul_self _
  have h4 : B * (B ^ k * (f a a).natAbs) = B ^ (k + 1) * (f a a).natAbs := by rw [Nat.pow_succ, Nat.mul_comm (B ^ k) B, Nat.mul_assoc]
  have h5 : B ^ (k + 1) ≤ B ^ n := Nat.pow_le_pow_right hB (by omega)
  have h6 : B ^ (k + 1) * (f a a).natAbs ≤ B ^ n * C := Nat.mul_le_mul h5 hC
  omega
theorem Def.up (h : Def f n B) {a L : Nat} (ha : a < n) (hL : ∀ k, k < a → (bk f k a k).natAbs ≤ L) : ∀ m k, a - k = m → k ≤ a → (bk f k a a).natAbs ≤ (B + L * L) * (B + 1) ^ m
  | 0, k, hm, hk => by
    have : k = a := by omega
    subst this
    rw [← dk_succ]
    have := h.le (k + 1) (by omega)
    simp
    omega
  | m + 1, k, hm, hk => by
    have ih := h.up ha hL m (k + 1) (by omega) (by omega)
    have s := abs_step (h.pos k (by omega)) (h.le k (by omega)) (h.sylv (k := k) (by omega) ha ha)
    have hl := hL k (by omega)
    have h2 := Nat.mul_le_mul hl hl
    have h3 := Nat.mul_le_mul_left B ih
    have h4 : L * L ≤ (B + L * L) * (B + 1) ^ m := Nat.le_trans (by omega) (Nat.le_mul_of_pos_right _ (Nat.pow_pos (by omega)))
    rw [Nat.pow_succ, ← Nat.mul_assoc, Nat.mul_add, Nat.mul_one, Nat.mul_comm _ B]
    omega
theorem Def.norm_le (h : Def f n B) {a L : Nat} (ha : a < n) (hL : ∀ k, k < a → (bk f k a k).natAbs ≤ L) : (f a a).natAbs ≤ (B + L * L) * (B + 1) ^ n := by
  have h1 := h.up ha hL a 0 rfl (by omega)
  rw [bk_zero] at h1
  exact Nat.le_trans h1 (Nat.mul_le_mul_left _ (Nat.pow_le_pow_right (by omega) (by omega)))
theorem Def.ent_up (h : Def f n B) {a b L : Nat} (ha : a < n) (hb : b < a) (hL : ∀ a k, a < n → k < a → (bk f k a k).natAbs ≤ L) : ∀ m k, b - k = m → k ≤ b → (bk f k a b).natAbs ≤ (L + L * L) * (B + 1) ^ m
  | 0, k, hm, hk => by
    have : k = b := by omega
    subst this
    have := hL a k ha hb
    simp
    omega
  | m + 1, k, hm, hk => by
    have ih := h.ent_up ha hb hL m (k + 1) (by omega) (by omega)
    have s := abs_step (h.pos k (by omega)) (h.le k (by omega)) (h.sylv (k := k) (a := a) (b := b) (by omega) ha (by omega))
    have h2 := Nat.mul_le_mul (hL a k ha (by omega)) (hL b k (by omega) (by omega))
    have h3 := Nat.mul_le_mul_left B ih
    have h4 : L * L ≤ (L + L * L) * (B + 1) ^ m := Nat.le_trans (by omega) (Nat.le_mul_of_pos_right _ (Nat.pow_pos (by omega)))
    rw [Nat.pow_succ, ← Nat.mul_assoc, Nat.mul_add, Nat.mul_one, Nat.mul_comm _ B]
    omega
theorem Def.ent_le (h : Def f n B) {L : Nat} (hL : ∀ a k, a < n → k < a → (bk f k a k).natAbs ≤ L) {a b : Nat} (ha : a < n) (hb : b < n) : (f a b).natAbs ≤ (B + L + L * L) * (B + 1) ^ n := by
  have key : ∀ a b, a < n → b < a → (f a b).natAbs ≤ (B + L + L * L) * (B + 1) ^ n := fun a b ha hb => by
    have h1 := h.ent_up ha hb hL b 0 rfl (by omega)
    rw [bk_zero] at h1
    refine Nat.le_trans h1 (Nat.mul_le_mul (by omega) (Nat.pow_le_pow_right (by omega) (by omega)))
  rcases Nat.lt_trichotomy a b with h' | h' | h'
  · rw [h.sym a ha b hb]; exact key b a hb h'
  · subst h'
    have h1 := h.norm_le ha (fun k hk => hL a k ha hk)
    exact Nat.le_trans h1 (Nat.mul_le_mul_right _ (by omega))
  · exact key a b ha h'
end
/-! The numbers of the reduction. -/
section
variable {f : Nat → Nat → Int} {n B : Nat}
def cN (n B : Nat) : Nat := (B + B * B) * (B + 1) ^ n
def l0 (n B : Nat) : Nat := B ^ n * cN n B
theorem siz_bk (h : Def f n B) {i j : Nat} (hi : i < n) (hj : j < i) : SizF f i j ↔ 2 * ((bk f j i j).natAbs : Int) ≤ dk f (j + 1) := by
  rw [SizF, lam_bk h.pos (by omega), dd_dk h.pos (by omega)]
theorem lov_bk (h : Def f n B) {i : Nat} (hi : i < n) (h0 : 0 < i) : LovF f i ↔ 3 * (dk f i * dk f i) ≤ 4 * (dk f (i - 1) * dk f (i + 1) + bk f (i - 1) i (i - 1) * bk f (i - 1) i (i - 1)) := by
  rw [LovF, lam_bk h.pos (by omega), dd_dk h.pos (by omega), dd_dk h.pos (by omega), dd_dk h.pos (by omega)]
theorem siz_le (h : Def f n B) {i j : Nat} (hi : i < n) (hj : j < i) (hs : SizF f i j) : (bk f j i j).natAbs ≤ B := by
  have h1 := (siz_bk h hi hj).1 hs
  have h2 := h.le (j + 1) (by omega)
  omega
theorem row_small (h : Def f n B) {i : Nat} (hi : i < n) (hs : ∀ j, j < i → SizF f i j) : (f i i).natAbs ≤ cN n B := h.norm_le hi fun k hk => siz_le h hi hk (hs k hk)
def Jn (f : Nat → Nat → Int) (n B : Nat) : Prop := (∀ a, a < n → (f a a).natAbs ≤ cN n B) ∨
  ∃ i, i < n ∧ (∀ a, a < n → a ≠ i → (f a a).natAbs ≤ cN n B) ∧ (∀ i', i' < i → RowOk f i') ∧ ∃ s, s ≤ i ∧ (∀ j', s ≤ j' → j' < i → SizF f i j') ∧ ∀ k, k < i → (bk f k i k).natAbs + 2 ≤ (l0 n B + 2) * (B + 2) ^ (i - s)
def lM (n B : Nat) : Nat := (l0 n B + 2) * (B + 2) ^ n
theorem Jn.lam (h : Def f n B) (hB : 1 ≤ B) (hj : Jn f n B) : ∀ a k, a < n → k < a → (bk f k a k).natAbs ≤ lM n B := by
  have h1 : l0 n B ≤ lM n B := Nat.le_trans (by omega) (Nat.le_mul_of_pos_right _ (Nat.pow_pos (by omega)))
  have h2 : ∀ e, e ≤ n → (l0 n B + 2) * (B + 2) ^ e ≤ lM n B := fun e he => Nat.mul_le_mul_left _ (Nat.pow_le_pow_right (by omega) he)
  rcases hj with hj | ⟨i, hi, hj, _, s, hs, _, hl⟩
  · exact fun a k ha hk => Nat.le_trans (h.lam_le ha hk hB (hj a ha)) h1
  · intro a k ha hk
    by_cases e : a = i
    · subst e
      have := hl k hk
      have := h2 (a - s) (by omega)
      omega
    · exact Nat.le_trans (h.lam_le ha hk hB (hj a ha e)) h1
def eN (n B : Nat) : Nat := (B + lM n B + lM n B * lM n B) * (B + 1) ^ n
theorem Jn.ent (h : Def f n B) (hB : 1 ≤ B) (hj : Jn f n B) {a b : Nat} (ha : a < n) (hb : b < n) : (f a b).natAbs ≤ eN n B := h.ent_le (hj.lam h hB) ha hb
end
end Go.Proofs.YtobnpabndpmabaaGreat
namespace Go.Proofs.YtobnpabndpmabaaGreat
theorem qF_near {l d : Int} (hd : 0 < d) : 2 * ((l + -(qF l d) * d).natAbs : Int) ≤ d := by
  unfold qF
  have h1 := Int.emod_add_mul_ediv (2 * l + d) (2 * d)
  have h2 := Int.emod_nonneg (2 * l + d) (show 2 * d ≠ 0 by omega)
  have h3 := Int.emod_lt_of_pos (2 * l + d) (show 0 < 2 * d by omega)
  generalize (2 * l + d) / (2 * d) = q at *
  have e : 2 * d * q = 2 * (q * d) := by rw [Int.mul_assoc, Int.mul_comm d q]
  rw [e] at h1
  have e2 : -q * d = -(q * d) := Int.neg_mul q d
  rw [e2]
  omega
theorem qF_abs {l d : Int} (hd : 0 < d) : (qF l d).natAbs ≤ l.natAbs + 1 := by
  unfold qF
  have h1 := Int.emod_add_mul_ediv (2 * l + d) (2 * d)
  have h2 := Int.emod_nonneg (2 * l + d) (show 2 * d ≠ 0 by omega)
  have h3 := Int.emod_lt_of_pos (2 * l + d) (show 0 < 2 * d by omega)
  generalize (2 * l + d) / (2 * d) = q at *
  have e : 2 * d * q = 2 * (d * q) := Int.mul_assoc 2 d q
  rw [e] at h1
  have e2 : (d * q).natAbs = d.natAbs * q.natAbs := Int.natAbs_mul d q
  have e3 : l.natAbs ≤ d.natAbs * l.natAbs := Nat.le_mul_of_pos_left _ (by omega)
  rcases Nat.lt_or_ge (l.natAbs + 1) q.natAbs with h | h
  · exfalso
    have h4 := Nat.mul_le_mul_left d.natAbs (show l.natAbs + 2 ≤ q.natAbs by omega)
    rw [Nat.mul_add] at h4
    omega
  · exact h
section
variable {f : Nat → Nat → Int} {n B : Nat}
theorem addF_sym (hs : SymF f n) {i j : Nat} (c : Int) (hj : j < n) : SymF (addF f i j c) n := fun a ha b hb => by
  by_cases hab : a = b
  · subst hab; rfl
  unfold addF
  rw [hs a ha b hb]
  by_cases h1 : a = i
  · by_cases h2 : b = i
    · omega
    · simp only [h1, h2, if_true, if_false]; rw [hs j hj b hb]; omega
  · by_cases h2 : b = i
    · simp only [h1, h2, if_true, if_false]; rw [hs a ha j hj]; omega
    · simp only [h1, h2, if_false]
theorem Def.add (h : Def f n B) {i j : Nat} (c : Int) (hji : j < i) (hi : i < n) : Def (addF f i j c) n B := by
  obtain ⟨h1, _⟩ := add_stages h.sym h.ne c hji hi
  exact ⟨addF_sym h.sym c (by omega), fun t ht => by rw [h1 (t + 1) (by omega)]; exact h.pos t ht, fun k hk => by rw [h1 k hk]; exact h.le k hk⟩
theorem rowOk_add (h : Def f n B) {i j : Nat} (c : Int) (hji : j < i) (hi : i < n) {i' : Nat} (hi' : i' < i) (hr : RowOk f i') : RowOk (addF f i j c) i' := by
  have h' := h.add c hji hi
  obtain ⟨h1, h2, h3⟩ := add_stages h.sym h.ne c hji hi
  have hb : ∀ k, k < i' → bk (addF f i j c) k i' k = bk f k i' k := fun k hk => by
    by_cases e : k ≤ j
    · rw [h2 k i' k e, addF_off (by omega) (by omega)]
    · exact h3 k i' k (by omega) (by omega) (by omega) (by omega)
  refine ⟨fun k hk => ?_, fun h0 => ?_⟩
  · rw [siz_bk h' (by omega) hk, hb k hk, h1 _ (by omega)]
    exact (siz_bk h (by omega) hk).1 (hr.1 k hk)
  · rw [lov_bk h' (by omega) h0, hb _ (by omega), h1 _ (by omega), h1 _ (by omega), h1 _ (by omega)]
    exact (lov_bk h (by omega) h0).1 (hr.2 h0)
def cF (f : Nat → Nat → Int) (i j : Nat) : Int := -(qF (lam f i j) (dd f (j + 1)))
theorem cF_bk (h : Def f n B) {i j : Nat} (hj : j < n) : cF f i j = -(qF (bk f j i j) (dk f (j + 1))) := by rw [cF, lam_bk h.pos hj, dd_dk h.pos (by omega)]
theorem siz_add (h : Def f n B) {i j : Nat} (hji : j < i) (hi : i < n) {j' : Nat} (h1 : j ≤ j') (h2 : j' < i) (hs : j < j' → SizF f i j') : SizF (addF f i j (cF f i j)) i j' := by
  have h' := h.add (cF f i j) hji hi
  obtain ⟨g1, g2, g3⟩ := add_stages h.sym h.ne (cF f i j) hji hi
  rw [siz_bk h' hi h2, g1 _ (by omega)]
  by_cases e : j' = j
  · subst e
    rw [g2 j' i j' (by omega)]
    have : addF (bk f j') i j' (cF f i j') i j' = bk f j' i j' + cF f i j' * dk f (j' + 1) := by
      unfold addF
      have hn : ¬ j' = i := by omega
      simp only [if_true, hn, if_false]
      rw [dk_succ]; omega
    rw [this, cF_bk h (by omega)]
    exact qF_near (h.pos j' (by omega))
  · rw [g3 j' i j' (by omega) (by omega) hi (by omega)]
    exact (siz_bk h hi h2).1 (hs (by omega))
theorem Jn_add (h : Def f n B) (hB : 1 ≤ B) (hJ : Jn f n B) {i j : Nat} (hF : Fst f (.add i j)) (hi : i < n) : Jn (addF f i j (cF f i j)) n B := by
  obtain ⟨hji, hns, hs, hr⟩ := hF
  obtain ⟨g1, g2, g3⟩ := add_stages h.sym h.ne (cF f i j) hji hi
  have hoff : ∀ a, a ≠ i → addF f i j (cF f i j) a a = f a a := fun a ha => addF_off ha ha
  -- the new lambdas of row i
  have hnew : ∀ M : Nat, (∀ k, k < i → (bk f k i k).natAbs + 2 ≤ M) → ∀ k, k < i → (bk (addF f i j (cF f i j)) k i k).natAbs + 2 ≤ M * (B + 2) := fun M hM k hk => by
    have hMk := hM k hk
    have hMj := hM j hji
    have e0 : M * (B + 2) = M * B + 2 * M := by rw [Nat.mul_add, Nat.mul_comm M 2]
    rcases Nat.lt_trichotomy k j with e | e | e
    · rw [g2 k i k (by omega)]
      have e1 : addF (bk f k) i j (cF f i j) i k = bk f k i k + cF f i j * bk f k j k := by
        unfold addF
        have hn : ¬ k = i := by omega
        simp only [if_true, hn, if_false]; omega
      rw [e1]
      have a1 := Int.natAbs_add_le (bk f k i k) (cF f i j * bk f k j k)
      rw [Int.natAbs_mul] at a1
      have a2 : (cF f i j).natAbs ≤ (bk f j i j).natAbs + 1 := by rw [cF_bk h (by omega), Int.natAbs_neg]; exact qF_abs (h.pos j (by omega))
      have a3 : (bk f k j k).natAbs ≤ B := siz_le h (by omega) e ((hr j hji).1 k e)
      have a4 := Nat.mul_le_mul (show (cF f i j).natAbs ≤ M by omega) a3
      omega
    · subst e
      have hz := siz_add h hji hi (Nat.le_refl k) hk (fun h => by omega)
      have := siz_le (h.add (cF f i k) hji hi) hi hk hz
      have : B ≤ M * B := Nat.le_mul_of_pos_left _ (by omega)
      omega
    · rw [g3 k i k (by omega) (by omega) hi (by omega)]
      have : 0 ≤ M * B := Nat.zero_le _
      omega
  have hfin : ∀ M e : Nat, 1 ≤ e → e ≤ i - j → M * (B + 2) ≤ (l0 n B + 2) * (B + 2) ^ e → (∀ a, a < n → a ≠ i → (f a a).natAbs ≤ cN n B) → (∀ k, k < i → (bk f k i k).natAbs + 2 ≤ M) → Jn (addF f i j (cF f i j)) n B := fun M e he1 he2 hMe hA hM => by
    refine .inr ⟨i, hi, fun a ha hne => by rw [hoff a hne]; exact hA a ha hne, fun i' hi' => rowOk_add h _ hji hi hi' (hr i' hi'), j, by omega, fun j' h1 h2 => siz_add h hji hi h1 h2 (fun h3 => hs j' h3 h2), fun k hk => ?_⟩
    refine Nat.le_trans (hnew M hM k hk) (Nat.le_trans hMe (Nat.mul_le_mul_left _ (Nat.pow_le_pow_right (by omega) he2)))
  rcases hJ with hA | ⟨i1, hi1, hA, hr1, s, hs1, hs2, hl⟩
  · refine hfin (l0 n B + 2) 1 (by omega) (by omega) (by rw [Nat.pow_one]; exact Nat.le_refl _) (fun a ha _ => hA a ha) (fun k hk => ?_)
    have : (bk f k i k).natAbs ≤ l0 n B := h.lam_le hi hk hB (hA i hi)
    omega
  · by_cases e : i1 = i
    · subst e
      have hjs : j < s := by
        rcases Nat.lt_or_ge j s with h' | h'
        · exact h'
        · exact absurd (hs2 j h' hji) hns
      refine hfin ((l0 n B + 2) * (B + 2) ^ (i1 - s)) (i1 - s + 1) (by omega) (by omega) (by rw [Nat.pow_succ, Nat.mul_assoc]; exact Nat.le_refl _) hA hl
    · have hall : (f i1 i1).natAbs ≤ cN n B := by
        rcases Nat.lt_or_ge i1 i with h' | h'
        · exact row_small h hi1 (hr i1 h').1
        · exact absurd ((hr1 i (by omega)).1 j hji) hns
      have hA' : ∀ a, a < n → (f a a).natAbs ≤ cN n B := fun a ha => by
        by_cases e' : a = i1
        · subst e'; exact hall
        · exact hA a ha e'
      refine hfin (l0 n B + 2) 1 (by omega) (by omega) (by rw [Nat.pow_one]; exact Nat.le_refl _) (fun a ha _ => hA' a ha) (fun k hk => ?_)
      have : (bk f k i k).natAbs ≤ l0 n B := h.lam_le hi hk hB (hA' i hi)
      omega
theorem swap_less (h : Def f n B) {m : Nat} (hm : m + 1 < n) (hl : ¬ LovF f (m + 1)) : 4 * dk (swF f m) (m + 1) < 3 * dk f (m + 1) ∧ 0 < dk (swF f m) (m + 1) := by
  obtain ⟨h1, h2⟩ := swap_minor h.sym h.pos hm
  refine ⟨?_, h2⟩
  have h3 : ¬ 3 * (dk f (m + 1) * dk f (m + 1)) ≤ 4 * (dk f m * dk f (m + 2) + bk f m (m + 1) m * bk f m (m + 1) m) := fun hh => hl ((lov_bk h hm (by omega)).2 hh)
  rw [← h1] at h3
  have p := h.pos m (by omega)
  rcases Int.lt_or_le (4 * dk (swF f m) (m + 1)) (3 * dk f (m + 1)) with h4 | h4
  · exact h4
  · exfalso
    have h5 := Int.mul_le_mul_of_nonneg_left h4 (Int.le_of_lt p)
    have e1 : dk f (m + 1) * (3 * dk f (m + 1)) = 3 * (dk f (m + 1) * dk f (m + 1)) := Int.mul_left_comm _ _ _
    have e2 : dk f (m + 1) * (4 * dk (swF f m) (m + 1)) = 4 * (dk f (m + 1) * dk (swF f m) (m + 1)) := Int.mul_left_comm _ _ _
    omega
theorem Def.swap (h : Def f n B) {m : Nat} (hm : m + 1 < n) (hl : ¬ LovF f (m + 1)) : Def (swF f m) n B := by
  obtain ⟨h1, _⟩ := swap_stages h.sym h.pos hm
  obtain ⟨g1, g2⟩ := swap_less h hm hl
  have p := h.pos m (by omega)
  refine ⟨fun a ha b hb => h.sym _ (sgm_lt hm ha) _ (sgm_lt hm hb), fun t ht => ?_, fun k hk => ?_⟩
  · by_cases e : t = m
    · subst e; exact g2
    · rw [h1 (t + 1) (by omega) (by omega)]; exact h.pos t ht
  · by_cases e : k = m + 1
    · subst e
      have := h.le (m + 1) hk
      omega
    · rw [h1 k hk e]; exact h.le k hk
theorem Jn_swap (h : Def f n B) (hJ : Jn f n B) {m : Nat} (hF : Fst f (.swp m)) (hm : m + 1 < n) : Jn (swF f m) n B := by
  obtain ⟨hnl, hs, hr⟩ := hF
  have hA : ∀ a, a < n → (f a a).natAbs ≤ cN n B := by
    rcases hJ with hA | ⟨i, hi, hA, hr1, _⟩
    · exact hA
    · intro a ha
      by_cases e : a = i
      · subst e
        rcases Nat.lt_trichotomy a (m + 1) with h' | h' | h'
        · exact row_small h ha (hr a h').1
        · subst h'; exact row_small h ha hs
        · exact absurd ((hr1 (m + 1) h').2 (by omega)) hnl
      · exact hA a ha e
  exact .inl fun a ha => hA _ (sgm_lt hm ha)
def prD (f : Nat → Nat → Int) : Nat → Nat
  | 0 => 1
  | k + 1 => prD f k * (dk f (k + 1)).natAbs
theorem prD_congr {g : Nat → Nat → Int} : ∀ k, (∀ t, t < k → dk g (t + 1) = dk f (t + 1)) → prD g k = prD f k
  | 0, _ => rfl
  | k + 1, h => by rw [prD, prD, prD_congr k (fun t ht => h t (by omega)), h k (by omega)]
theorem prD_pos (h : Def f n B) : ∀ k, k ≤ n → 0 < prD f k
  | 0, _ => by simp [prD]
  | k + 1, hk => by
    have := h.pos k (by omega)
    exact Nat.mul_pos (prD_pos h k (by omega)) (by omega)
theorem prD_le (h : Def f n B) : ∀ k, k ≤ n → prD f k ≤ B ^ k
  | 0, _ => by simp [prD]
  | k + 1, hk => by rw [prD, Nat.pow_succ]; exact Nat.mul_le_mul (prD_le h k (by omega)) (h.le (k + 1) hk)
theorem prD_swap (h : Def f n B) {m : Nat} (hm : m + 1 < n) (hl : ¬ LovF f (m + 1)) : ∀ k, m < k → k ≤ n → 4 * prD (swF f m) k ≤ 3 * prD f k
  | k + 1, hk, hkn => by
    obtain ⟨h1, _⟩ := swap_stages h.sym h.pos hm
    obtain ⟨g1, g2⟩ := swap_less h hm hl
    have p := h.pos m (by omega)
    rw [prD, prD]
    by_cases e : k = m
    · subst e
      rw [prD_congr k (fun t ht => h1 (t + 1) (by omega) (by omega)), Nat.mul_left_comm, Nat.mul_left_comm 3]
      exact Nat.mul_le_mul_left _ (by omega)
    · have ih := prD_swap h hm hl k (by omega) (by omega)
      rw [h1 (k + 1) hkn (by omega), ← Nat.mul_assoc, ← Nat.mul_assoc]
      exact Nat.mul_le_mul_right _ ih
end
/-! Bounds of the minors of a matrix of small entries. -/
theorem lap_bd {r : Nat → Int} (hr : ∀ c, (r c).natAbs ≤ 9) {M : Nat} : ∀ (cs : List Nat) (N : Nat) (F : List Nat → Int), cs.length ≤ N → (∀ l, l.length ≤ N → (F l).natAbs ≤ M) → (lap r F cs).natAbs ≤ cs.length * (9 * M)
  | [], _, _, _, _ => by simp [lap]
  | c :: cs, N, F, hN, hF => by
    rw [lap]
    have h1 := Int.natAbs_sub_le (r c * F cs) (lap r (fun l => F (c :: l)) cs)
    have h2 := lap_bd hr cs (N - 1) (fun l => F (c :: l)) (by simp at hN; omega) (fun l hl => hF (c :: l) (by simp at hN ⊢; omega))
    rw [Int.natAbs_mul] at h1
    have h3 := Nat.mul_le_mul (hr c) (hF cs (by simp at hN; omega))
    rw [List.length_cons, Nat.add_mul, Nat.one_mul]
    omega
theorem om_bd {f : Nat → Nat → Int} (hf : ∀ a b, (f a b).natAbs ≤ 9) : ∀ k l, l.length ≤ 8 → (om f k l).natAbs ≤ 72 ^ k
  | 0, l, _ => by simp [om]
  | k + 1, l, hl => by
    rw [om]
    have := lap_bd (hf k) l 8 (om f k) hl (fun l hl => om_bd hf k l hl)
    have h2 : l.length * (9 * 72 ^ k) ≤ 8 * (9 * 72 ^ k) := Nat.mul_le_mul_right _ hl
    rw [Nat.pow_succ]
    omega
theorem csk_len : ∀ k, (csk k).length = k
  | 0 => rfl
  | k + 1 => by rw [csk, List.length_cons, csk_len k]
abbrev bB : Nat := 722204136308736
theorem dk_bd {f : Nat → Nat → Int} (hf : ∀ a b, (f a b).natAbs ≤ 9) {k : Nat} (hk : k ≤ 8) : (dk f k).natAbs ≤ bB := by
  have h1 := om_bd hf k (csk k) (by rw [csk_len]; exact hk)
  have h2 : 72 ^ k ≤ 72 ^ 8 := Nat.pow_le_pow_right (by omega) hk
  have h3 : (72 : Nat) ^ 8 = bB := by decide
  unfold dk
  omega
end Go.Proofs.YtobnpabndpmabaaGreat
