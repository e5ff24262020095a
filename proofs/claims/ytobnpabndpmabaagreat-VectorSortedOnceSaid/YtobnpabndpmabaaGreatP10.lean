/-
  Part 11 of a proof (walks and plain facts).
-/
import Derived.Test.YtobnpabndpmabaaGreatP09
set_option linter.all false
namespace Go.Proofs.YtobnpabndpmabaaGreat
open Go.RowKit
theorem WpA_cut {P : Program} {c z : Code} {Q : Exit → AS → Prop} {s S : AS} (h1 : WpA P c (thenA (fun s' => Weak s' S) Q) s) (h2 : WpA P z Q S) : WpA P c (thenA (WpA P z Q) Q) s := h1.mono fun e s' h => by
  cases e with
  | normal => exact WpA.weak h h2
  | _ => exact h
theorem Sz.mul {a b : Int} {k l : Nat} (ha : Sz a k) (hb : Sz b l) : Sz (a * b) (k + l) := by
  unfold Sz at *; rw [Int.natAbs_mul, Nat.pow_add]; exact Nat.mul_lt_mul'' ha hb
theorem Sz.sub {a b : Int} {k : Nat} (ha : Sz a k) (hb : Sz b k) : Sz (a - b) (k + 1) := by
  unfold Sz at *
  have := Int.natAbs_sub_le a b
  rw [Nat.pow_succ]
  generalize 4294967296 ^ k = p at *
  omega
theorem Sz.add {a b : Int} {k : Nat} (ha : Sz a k) (hb : Sz b k) : Sz (a + b) (k + 1) := by
  unfold Sz at *
  have := Int.natAbs_add_le a b
  rw [Nat.pow_succ]
  generalize 4294967296 ^ k = p at *
  omega
theorem Sz.ediv {a : Int} {k : Nat} (ha : Sz a k) (b : Int) : Sz (a / b) k := ha.le (Int.natAbs_ediv_le_natAbs a b)
theorem piv_ne {f : Nat → Nat → Int} {n k : Nat} : ∀ m p, n - p = m → piv f n k p < n → p ≤ piv f n k p ∧ f (piv f n k p) k ≠ 0
  | 0, p, hm, h => by rw [piv_end (by omega)] at h; omega
  | m + 1, p, hm, h => by
    by_cases h0 : f p k = 0
    · rw [piv_lo (by omega) h0] at h ⊢
      have := piv_ne m (p + 1) (by omega) h
      exact ⟨by omega, this.2⟩
    · rw [piv_hi (by omega) h0] at h ⊢
      exact ⟨by omega, h0⟩
theorem piv_le {f : Nat → Nat → Int} {n k : Nat} : ∀ m p, n - p = m → piv f n k p ≤ n
  | 0, p, hm => by rw [piv_end (by omega)]; omega
  | m + 1, p, hm => by
    by_cases h0 : f p k = 0
    · rw [piv_lo (by omega) h0]; exact piv_le m (p + 1) (by omega)
    · rw [piv_hi (by omega) h0]; omega
def npart (k : Nat) (last : Int) (g : Nat → Nat → Int) (i j : Nat) : Nat → Nat → Int := fun a b => if k < a ∧ k < b ∧ (a < i ∨ (a = i ∧ b < j)) then (g k k * g a b - g a k * g k b) / last else g a b
theorem np_step {k i j : Nat} (last : Int) (g : Nat → Nat → Int) (hi : k < i) (hj : k < j) (a b : Nat) : upd (npart k last g i j) i j ((g k k * g i j - g i k * g k j) / last) a b = npart k last g i (j + 1) a b := by
  unfold upd npart
  by_cases h1 : a = i
  · subst h1
    by_cases h2 : b = j
    · subst h2; simp [hi, hj]
    · have : b < j + 1 ↔ b < j := by omega
      simp [h2, this]
  · simp [h1]
theorem np_row {k n : Nat} (last : Int) (g : Nat → Nat → Int) (i a b : Nat) (hb : b < n) : npart k last g i n a b = npart k last g (i + 1) (k + 1) a b := by
  unfold npart
  have : (k < a ∧ k < b ∧ (a < i ∨ a = i ∧ b < n)) ↔ (k < a ∧ k < b ∧ (a < i + 1 ∨ a = i + 1 ∧ b < k + 1)) := by omega
  simp only [this]
theorem np_zero (k : Nat) (last : Int) (g : Nat → Nat → Int) : npart k last g (k + 1) (k + 1) = g := by
  funext a b
  unfold npart
  rw [if_neg (by omega)]
theorem np_end {k n : Nat} (last : Int) (g : Nat → Nat → Int) (a b : Nat) (ha : a < n) : npart k last g n (k + 1) a b = nxt k last g a b := by
  unfold npart nxt
  have : (k < a ∧ k < b ∧ (a < n ∨ a = n ∧ b < k + 1)) ↔ (k < a ∧ k < b) := by omega
  simp only [this]
theorem np_same {k i j a b : Nat} (last : Int) (g : Nat → Nat → Int) (h : ¬ (k < a ∧ k < b ∧ (a < i ∨ (a = i ∧ b < j)))) : npart k last g i j a b = g a b := by
  unfold npart; rw [if_neg h]
theorem mx_swap {d n p k : Nat} (g : Nat → Nat → Int) (hp : p < n) (hk : k < n) (hne : k ≠ p) (r : Nat) : (mxF d n n (swp p k g))[r]? =
    (((⟨122, 1, ((spn d (List.replicate n n)).set p [.sl d (k + 1) 0 n]).set k [.sl d (p + 1) 0 n]⟩ :: (mat n n g).map rwO : List OObj))[sw (p + 1) (k + 1) r]?).map (swO d (p + 1) (k + 1)) := by
  cases r with
  | zero =>
    rw [show sw (p + 1) (k + 1) 0 = 0 by simp [sw]]
    simp only [List.getElem?_cons_zero, Option.map_some, swO]
    congr 2
    apply List.ext_getElem?
    intro i
    rw [List.getElem?_map, List.getElem?_set, List.getElem?_set, List.length_set, spn_len, List.length_replicate]
    by_cases hi : i < n
    · rw [spn_get d n hi]
      by_cases h1 : k = i
      · subst h1
        simp [hi, swAV, ixS, sw]
      · by_cases h2 : p = i
        · subst h2
          simp [h1, hi, swAV, ixS, sw]
        · have h1' : ¬ i = k := fun e => h1 e.symm
          have h2' : ¬ i = p := fun e => h2 e.symm
          simp [h1, h2, h1', h2', swAV, ixS, sw]
    · have h1 : ¬ k = i := by omega
      have h2 : ¬ p = i := by omega
      rw [if_neg h1, if_neg h2, List.getElem?_eq_none (by rw [spn_len, List.length_replicate]; omega)]; rfl
  | succ r =>
    have hsw : sw (p + 1) (k + 1) (r + 1) = sw p k r + 1 := by
      unfold sw
      by_cases h1 : r = p
      · simp [h1]
      · by_cases h2 : r = k
        · simp [h1, h2, hne]
        · simp [h1, h2]
    have hO : ∀ l : List Int, swO d (p + 1) (k + 1) (rwO l) = rwO l := fun l => by
      simp only [swO, rwO, lc, List.map_map]
      congr 1
    rw [hsw, List.getElem?_cons_succ, List.getElem?_cons_succ, List.getElem?_map, List.getElem?_map]
    by_cases hr : r < n
    · have hs : sw p k r < n := by unfold sw; split <;> (try split) <;> omega
      rw [mat_get _ _ hr, mat_get _ _ hs]
      simp only [Option.map_some, hO]
      congr 3
      unfold swp sw
      by_cases h1 : r = p
      · simp [h1]
      · by_cases h2 : r = k
        · simp [h1, h2, hne]
        · simp [h1, h2]
    · have hs : ¬ sw p k r < n := by unfold sw; rw [if_neg (by omega), if_neg (by omega)]; exact hr
      rw [List.getElem?_eq_none (by rw [mat_len]; omega), List.getElem?_eq_none (by rw [mat_len]; omega)]; rfl
structure DeG (n : Nat) (f : Nat → Nat → Int) where
  k : Nat
  g : Nat → Nat → Int
  last : Int
  neg : Bool
  b : Nat
  hk : k ≤ n
  hv : detG n k g last neg = detF n f
  hl : last ≠ 0
  hb : b + 1 ≤ 1025 * 2 ^ k
  sg : ∀ i j, i < n → j < n → Sz (g i j) b
  sl : Sz last b
structure PvG (n k : Nat) (g : Nat → Nat → Int) where
  p : Nat
  hkp : k ≤ p
  hp : p ≤ n
  hv : piv g n k p = piv g n k k
structure NxG (n k : Nat) where
  i : Nat
  hk : k + 1 ≤ i
  hi : i ≤ n
abbrev bxV (v : Int) : List OObj := bxZ (decide (v < 0)) (limbs v.natAbs)
theorem sg_zero : sg 0 = 0 := rfl
theorem sg_ne {z : Int} (h : z ≠ 0) : sg z ≠ 0 := by unfold sg; split <;> simp [h]
theorem pow_bound {k : Nat} (h : k ≤ 16) : 2 ^ k ≤ 65536 := Nat.pow_le_pow_right (n := 2) (by omega) h
set_option maxRecDepth 100000 in
set_option maxHeartbeats 8000000 in
theorem Determinant_C (n : Nat) (f : Nat → Nat → Int) (hn1 : 1 ≤ n) (hn : n ≤ 16) (hf : ∀ i j, i < n → j < n → Sz (f i j) 1024) :
    CallC Tryz.prog 102 [slM (mat n n f)] ⟨[], tZ (detF n f)⟩ := by
  have hC := Copy_C n n f (by omega) hn1 (by omega) (fun i j hi hj => (hf i j hi hj).mono (by omega))
  have hS := small_C 1 (by omega) (by omega)
  refine callC_of Tryz.func102 rfl (by kernel_rfl) ?_; rw [Tryz.ntmps102]
  (refine WpA_sreg [] [] (by simp) fun K hK => ?_; simp (disch := omega) only [kc, prep1, slM, List.replicate, opS_alloc, newS, effA, ty_zero79, Value.oneCell', Nat.reduceAdd, ifT]; (with_reducible refine hK _ ?_))
  (refine WpA_sreg [⟨1, _, _, _, hC⟩] [] (by simp) fun K hK => ?_; simp (disch := omega) only [kc, slM, CItem.a, prep1, Nat.reduceAdd, opS_call, newS, effA, List.find?_cons, evAll, norm, CallRes.plain, List.isEmpty_cons, rawTV, rawAV, normOk, Bool.not_false, noRefTV, noRefAV, Bool.or_false, renTV, renAV, renO, updH, Nat.reduceEqDiff]; (with_reducible refine hK _ ?_))
  (refine WpA_sreg [] [] (by simp) fun K hK => ?_; simp (disch := omega) only [kc, prep1, Nat.reduceAdd, opS_len, effR, ty_slice50]; (with_reducible refine hK _ ?_))
  (refine WpA_sreg [⟨0, _, _, _, hS⟩] [] (by simp) fun K hK => ?_; simp (disch := omega) only [kc, tZ, decF, CItem.a, prep1, Nat.reduceAdd, opS_call, newS, effA, List.find?_cons, evAll, ofConst, Value.oneCell', norm, CallRes.plain, rawTV, rawAV, normOk, noRefTV, noRefAV, renTV, renAV, opS_alloc, ty_zero79, ifT, updH, Nat.reduceEqDiff, ifF, opS_store, wrS, effD, ty_sz79, cellsOf, Nat.le_refl, isPure, putCells, killTV, killAV]; (with_reducible refine hK _ ?_))
  (refine WpA_seq (WpA_sreg [] [] (by simp) fun K hK => ?_); simp (disch := omega) only [kc, prep1, ofConst, Value.oneCell']; (with_reducible refine hK _ ?_))
  refine WpA_forb (G := DeG n f) (fun g => ⟨[jk, jk, .one (.ptr 2 0 0 0), .one (.sl 12 0 0 n), .raw (.int .i64 (n : Int)), .one (.ptr 5 0 0 0), .raw (.bool g.neg), .raw (.int .i64 (g.k : Int)), jk, jk, jk, jk, jk, jk, jk, jk, jk, jk, jk, jk, jk, jk, jk, jk, jk, jk, jk, jk, jk, jk, jk, jk, jk, jk, jk, jk, jk, jk, jk, jk, jk, jk, jk, jk, jk, jk, jk, jk, jk, jk, jk, jk, jk, jk, jk, jk, jk, jk, jk, jk, jk, jk, jk, jk, jk, jk, jk, jk, jk, jk, jk, jk, jk, jk, jk, jk, jk, jk, jk, jk, jk, jk, jk, jk, jk, jk, jk, jk, jk, jk, jk, jk, jk, jk, jk, jk, jk, jk, jk, jk, jk, jk, jk, jk, jk, jk, jk, jk, jk, jk, jk, jk, jk, jk, jk, jk, jk, jk, jk, jk, jk, jk, jk, jk, jk], Hm [(2, bx0), (5, bxV g.last), (12, mxF 12 n n g.g)]⟩) (fun g => n - g.k) ⟨0, f, 1, false, 1024, by omega, rfl, by omega, by omega, hf, sz_one (by omega)⟩ ?_ ?_
  · refine Weak_sub ⟨rfl, rfl, ?_, trivial⟩ ?_
    · exact mxF_ren 0 12 n n f
    · simp [wkL, okTV, okAV]
  · rintro ⟨k, g, last, neg, b, hk, hv, hl, hb, sgz, slz⟩
    simp only
    by_cases hm : k < n
    · have h2k := pow_bound (k := k) (by omega)
      have hbb : b ≤ 67174400 := by omega
      have hvk : detG n k g last neg = if piv g n k k = n then 0 else detG n (k + 1) (nxt k last (pvt n k g)) (pvt n k g k k) (neg != decide (k < piv g n k k)) := by rw [detG, if_pos hm]
      (refine WpA_seq (WpA_sreg [] [] (by simp) fun K hK => ?_); simp (disch := omega) only [kc, prep1, Nat.reduceAdd, Hm, effM, evBin, decT]; (with_reducible refine hK _ ?_))
      refine WpA_cond rfl (fun _ => WpA_skip ?_) (fun h => by simp at h <;> omega)
      refine WpA_seq (WpA_block ?_)
      (refine WpA_sreg [] [] (by simp) fun K hK => ?_; simp (disch := omega) only [kc, prep1]; (with_reducible refine hK _ ?_))
      refine WpA_seq (WpA_cut (S := ⟨[jk, jk, .one (.ptr 2 0 0 0), .one (.sl 12 0 0 n), .raw (.int .i64 (n : Int)), .one (.ptr 5 0 0 0), .raw (.bool neg), .raw (.int .i64 (k : Int)), .raw (.int .i64 ((piv g n k k : Nat) : Int)), jk, jk, jk, jk, jk, jk, jk, jk, jk, jk, jk, jk, jk, jk, jk, jk, jk, jk, jk, jk, jk, jk, jk, jk, jk, jk, jk, jk, jk, jk, jk, jk, jk, jk, jk, jk, jk, jk, jk, jk, jk, jk, jk, jk, jk, jk, jk, jk, jk, jk, jk, jk, jk, jk, jk, jk, jk, jk, jk, jk, jk, jk, jk, jk, jk, jk, jk, jk, jk, jk, jk, jk, jk, jk, jk, jk, jk, jk, jk, jk, jk, jk, jk, jk, jk, jk, jk, jk, jk, jk, jk, jk, jk, jk, jk, jk, jk, jk, jk, jk, jk, jk, jk, jk, jk, jk, jk, jk, jk, jk, jk, jk, jk, jk, jk, jk], Hm [(2, bx0), (5, bxV last), (12, mxF 12 n n g)]⟩) ?_ ?_)
      · refine WpA_forb (G := PvG n k g) (fun q => ⟨[jk, jk, .one (.ptr 2 0 0 0), .one (.sl 12 0 0 n), .raw (.int .i64 (n : Int)), .one (.ptr 5 0 0 0), .raw (.bool neg), .raw (.int .i64 (k : Int)), .raw (.int .i64 (q.p : Int)), jk, jk, jk, jk, jk, jk, jk, jk, jk, jk, jk, jk, jk, jk, jk, jk, jk, jk, jk, jk, jk, jk, jk, jk, jk, jk, jk, jk, jk, jk, jk, jk, jk, jk, jk, jk, jk, jk, jk, jk, jk, jk, jk, jk, jk, jk, jk, jk, jk, jk, jk, jk, jk, jk, jk, jk, jk, jk, jk, jk, jk, jk, jk, jk, jk, jk, jk, jk, jk, jk, jk, jk, jk, jk, jk, jk, jk, jk, jk, jk, jk, jk, jk, jk, jk, jk, jk, jk, jk, jk, jk, jk, jk, jk, jk, jk, jk, jk, jk, jk, jk, jk, jk, jk, jk, jk, jk, jk, jk, jk, jk, jk, jk, jk, jk, jk], Hm [(2, bx0), (5, bxV last), (12, mxF 12 n n g)]⟩) (fun q => n - q.p) ⟨k, by omega, by omega, rfl⟩ ?_ ?_
        · refine Weak_sub ⟨rfl, rfl, rfl, trivial⟩ ?_
          simp [wkL, okTV, okAV]
        · rintro ⟨p, hkp, hp, hpv⟩
          simp only
          by_cases hpn : p < n
          · have g1 := spn_get (n := n) (i := p) 12 n hpn
            have g2 := mxr_get n g hpn
            have g3 := rowF_get (g p) hm
            have hSg := sign_C (g p k) ((sgz p k hpn hm).mono (by omega))
            by_cases h0 : g p k = 0
            · rw [h0] at hSg g3
              (refine WpA_seq (WpA_sreg [⟨11, _, _, _, hSg⟩] [] (by simp) fun K hK => ?_); simp (disch := omega) only [kc, tZ, decF, sg_zero, CItem.a, prep1, Nat.reduceAdd, Hm, effM, evBin, decT, stS_guard, opS_indexAddr, effR, natOf_pos, ty_slice50, Nat.reduceEqDiff, ifT, ifF, ty_sz122, g1, packT, ty_agg122, ty_slice122, g2, ty_sz79, lc_get, fZ, g3, ty_agg79, Nat.le_refl, opS_call, newS, effA, List.find?_cons, evAll, norm, CallRes.plain, rawTV, rawAV, normOk, isPure, noRefTV, noRefAV, renTV, renAV, ofConst, Value.oneCell', opS_pick]; (with_reducible refine hK _ ?_))
              refine WpA_cond rfl (fun _ => WpA_skip ?_) (fun h => by simp at h)
              refine WpA_block ?_
              ((refine WpA_lreg [] [] (by simp) fun K hK => ?_); simp (disch := omega) only [kc, prep1, Nat.reduceAdd, effM, ofConst, Value.oneCell', evBin, wrapI]; (with_reducible refine hK _ ?_))
              refine ⟨⟨p + 1, by omega, by omega, ?_⟩, by simp only; omega, Weak_sub ⟨rfl, rfl, rfl, trivial⟩ ?_⟩
              · rw [← hpv, piv_lo hpn h0]
              · simp [wkL, okTV, okAV]
            · have hs0 := sg_ne h0
              (refine WpA_seq (WpA_sreg [⟨11, _, _, _, hSg⟩] [] (by simp) fun K hK => ?_); simp (disch := omega) only [kc, tZ, CItem.a, prep1, Nat.reduceAdd, Hm, effM, evBin, decT, stS_guard, opS_indexAddr, effR, natOf_pos, ty_slice50, Nat.reduceEqDiff, ifT, ifF, ty_sz122, g1, packT, ty_agg122, ty_slice122, g2, ty_sz79, lc_get, fZ, g3, ty_agg79, Nat.le_refl, opS_call, newS, effA, List.find?_cons, evAll, norm, CallRes.plain, rawTV, rawAV, normOk, isPure, noRefTV, noRefAV, renTV, renAV, ofConst, Value.oneCell', decF, opS_pick]; (with_reducible refine hK _ ?_))
              refine WpA_cond rfl (fun h => by simp at h <;> omega) (fun _ => WpA_exit ?_)
              show Weak _ _
              have hpe : piv g n k k = p := by rw [← hpv, piv_hi hpn h0]
              refine Weak_sub ⟨rfl, rfl, rfl, trivial⟩ ?_
              simp [wkL, okTV, okAV, hpe]
          · have hpe : piv g n k k = p := by rw [← hpv, piv_end hpn]; omega
            (refine WpA_seq (WpA_sreg [] [] (by simp) fun K hK => ?_); simp (disch := omega) only [kc, prep1, Nat.reduceAdd, Hm, effM, evBin, decF, stS_guard, opS_indexAddr, effR, Option.map_none, opS_call, newS, effA, List.find?_nil, evAll, ofConst, Value.oneCell', opS_pick]; (with_reducible refine hK _ ?_))
            refine WpA_cond rfl (fun h => by simp at h) (fun _ => WpA_exit ?_)
            show Weak _ _
            refine Weak_sub ⟨rfl, rfl, rfl, trivial⟩ ?_
            simp [wkL, okTV, okAV, hpe]
      · have hpl := piv_le (f := g) (n := n) (k := k) (n - k) k rfl
        have hpn' := piv_ne (f := g) (n := n) (k := k) (n - k) k rfl
        generalize hpp : piv g n k k = p at *
        by_cases hpn : p = n
        · rw [if_pos hpn] at hvk
          (refine WpA_seq (WpA_sreg [] [] (by simp) fun K hK => ?_); simp (disch := omega) only [kc, prep1, Nat.reduceAdd, Hm, effM, evBin, decT]; (with_reducible refine hK _ ?_))
          refine WpA_cond rfl (fun _ => ?_) (fun h => by simp at h <;> omega)
          (refine WpA_sreg [] [] (by simp) fun K hK => ?_; simp (disch := omega) only [kc, prep1, opS_build, effR, ty_zero79, ty_plc79, Value.oneCell', fillA, opS_store, wrS, effD, ty_sz79, Nat.reduceEqDiff, ifF, cellsOf, Nat.reduceAdd, Nat.le_refl, isPure, ifT, putCells, killTV, killAV]; (with_reducible refine hK _ ?_))
          refine WpA.weak (Weak_zH 2) ?_
          refine WpA_ret ⟨.inr rfl, ret_now rfl ?_ rfl⟩
          rw [← hv, hvk]
          simp (disch := omega) only [kc, resA, Tryz.results102, resOne, zH, updH, Nat.reduceEqDiff, ifF, ifT, zO, zAV, zPV, packT, ty_sz79, ty_agg79, Nat.reduceAdd, Nat.le_refl, tZ, decF]
          simp [limbs_zero, ls]
        · rw [if_neg hpn] at hvk
          obtain ⟨hkp, hpk0⟩ := hpn' (by omega)
          (refine WpA_seq (WpA_sreg [] [] (by simp) fun K hK => ?_); simp (disch := omega) only [kc, prep1, Nat.reduceAdd, Hm, effM, evBin, decF]; (with_reducible refine hK _ ?_))
          refine WpA_cond rfl (fun h => by simp at h <;> omega) (fun _ => WpA_skip ?_)
          show WpA _ _ _ _
          (refine WpA_seq (WpA_sreg [] [] (by simp) fun K hK => ?_); simp (disch := omega) only [kc, prep1, Nat.reduceAdd, effM, evBin]; (with_reducible refine hK _ ?_))
          refine WpA_cut (S := ⟨[jk, jk, .one (.ptr 2 0 0 0), .one (.sl 12 0 0 n), .raw (.int .i64 (n : Int)), .one (.ptr 5 0 0 0), .raw (.bool (neg != decide (k < p))), .raw (.int .i64 (k : Int)), jk, jk, jk, jk, jk, jk, jk, jk, jk, jk, jk, jk, jk, jk, jk, jk, jk, jk, jk, jk, jk, jk, jk, jk, jk, jk, jk, jk, jk, jk, jk, jk, jk, jk, jk, jk, jk, jk, jk, jk, jk, jk, jk, jk, jk, jk, jk, jk, jk, jk, jk, jk, jk, jk, jk, jk, jk, jk, jk, jk, jk, jk, jk, jk, jk, jk, jk, jk, jk, jk, jk, jk, jk, jk, jk, jk, jk, jk, jk, jk, jk, jk, jk, jk, jk, jk, jk, jk, jk, jk, jk, jk, jk, jk, jk, jk, jk, jk, jk, jk, jk, jk, jk, jk, jk, jk, jk, jk, jk, jk, jk, jk, jk, jk, jk, jk, jk], Hm [(2, bx0), (5, bxV last), (12, mxF 12 n n (swp p k g))]⟩) ?_ ?_
          · by_cases hlt : k < p
            · have g1 := spn_get (n := n) (i := p) 12 n (by omega)
              have g2 := spn_get (n := n) (i := k) 12 n (by omega)
              refine WpA_cond rfl (fun _ => ?_) (fun h => by simp at h <;> omega)
              have g4 : ((spn 12 (List.replicate n n)).set p [.sl 12 (k + 1) 0 n])[k]? = some [.sl 12 (k + 1) 0 n] := by
                rw [List.getElem?_set_ne (by omega), g2]
              (refine WpA_sdraw mixedA [] [] (by kernel_rfl) (by simp) fun K hK => ?_; simp (disch := omega) only [kc, prep1, Nat.reduceAdd, decT, opS_indexAddr, effR, natOf_pos, ty_slice50, Nat.reduceEqDiff, ifF, ty_sz122, ifT, g2, packT, ty_agg122, g1, opS_store, wrS, effD, putCells, killTV, killAV, updH, g4, reduceCtorEq, false_and, List.length_map]; (with_reducible refine hK _ ?_))
              ((refine WpA_lreg [] [] (by simp) fun K hK => ?_); simp (disch := omega) only [kc, prep1, Nat.reduceAdd, opS_un, effM, evUn]; (with_reducible refine hK _ ?_))
              refine (Weak_sw 12 (p + 1) (k + 1) (mxF 12 n n (swp p k g)) (mx_swap g (by omega) hm (by omega))).trans (Weak_sub ⟨rfl, rfl, rfl, trivial⟩ ?_)
              simp [wkL, okTV, okAV, swTV, swAV, ixS, sw, hlt]
            · have hpk : p = k := by omega
              subst hpk
              refine WpA_cond rfl (fun h => by simp at h <;> omega) (fun _ => WpA_skip ?_)
              show Weak _ _
              rw [swp_self]
              refine Weak_sub ⟨rfl, rfl, rfl, trivial⟩ ?_
              simp [wkL, okTV, okAV]
          · rw [pvt, hpp] at hvk
            have hkk : swp p k g k k ≠ 0 := by
              unfold swp
              by_cases h : k = p
              · subst h; rw [if_pos rfl]; exact hpk0
              · rw [if_neg h, if_pos rfl]; exact hpk0
            have hsz : ∀ i j, i < n → j < n → Sz (swp p k g i j) b := fun i j hi hj => by
              unfold swp
              split
              · exact sgz k j hm hj
              · split
                · exact sgz p j (by omega) hj
                · exact sgz i j hi hj
            generalize swp p k g = g' at *
            generalize (neg != decide (k < p)) = neg' at *
            (refine WpA_seq (WpA_sreg [] [] (by simp) fun K hK => ?_); simp (disch := omega) only [kc, prep1, Nat.reduceAdd, Hm, effM, ofConst, Value.oneCell', evBin, wrapI]; (with_reducible refine hK _ ?_))
            refine WpA_forb (G := NxG n k) (fun q => ⟨[jk, jk, .one (.ptr 2 0 0 0), .one (.sl 12 0 0 n), .raw (.int .i64 (n : Int)), .one (.ptr 5 0 0 0), .raw (.bool neg'), .raw (.int .i64 (k : Int)), jk, .raw (.int .i64 (q.i : Int)), jk, jk, jk, jk, jk, jk, jk, jk, jk, jk, jk, jk, jk, jk, jk, jk, jk, jk, jk, jk, jk, jk, jk, jk, jk, jk, jk, jk, jk, jk, jk, jk, jk, jk, jk, jk, jk, jk, jk, jk, jk, jk, jk, jk, jk, jk, jk, jk, jk, jk, jk, jk, jk, jk, jk, jk, jk, jk, jk, jk, jk, jk, jk, jk, jk, jk, jk, jk, jk, jk, jk, jk, jk, jk, jk, jk, jk, jk, jk, jk, jk, jk, jk, jk, jk, jk, jk, jk, jk, jk, jk, jk, jk, jk, jk, jk, jk, jk, jk, jk, jk, jk, jk, jk, jk, jk, jk, jk, jk, jk, jk, jk, jk, jk, jk], Hm [(2, bx0), (5, bxV last), (12, mxF 12 n n (npart k last g' q.i (k + 1)))]⟩) (fun q => n - q.i) ⟨k + 1, by omega, by omega⟩ ?_ ?_
            · rw [np_zero]
              refine Weak_sub ⟨rfl, rfl, rfl, trivial⟩ ?_
              simp [wkL, okTV, okAV]
            · rintro ⟨i, hki, hin⟩
              simp only
              by_cases hi : i < n
              · (refine WpA_seq (WpA_sreg [] [] (by simp) fun K hK => ?_); simp (disch := omega) only [kc, prep1, Nat.reduceAdd, Hm, effM, evBin, decT]; (with_reducible refine hK _ ?_))
                refine WpA_cond rfl (fun _ => WpA_skip ?_) (fun h => by simp at h <;> omega)
                refine WpA_seq (WpA_block ?_)
                (refine WpA_sreg [] [] (by simp) fun K hK => ?_; simp (disch := omega) only [kc, prep1, Nat.reduceAdd, effM, ofConst, Value.oneCell', evBin, wrapI]; (with_reducible refine hK _ ?_))
                refine WpA_forb (G := NxG n k) (fun q => ⟨[jk, jk, .one (.ptr 2 0 0 0), .one (.sl 12 0 0 n), .raw (.int .i64 (n : Int)), .one (.ptr 5 0 0 0), .raw (.bool neg'), .raw (.int .i64 (k : Int)), jk, .raw (.int .i64 (i : Int)), .raw (.int .i64 (q.i : Int)), jk, jk, jk, jk, jk, jk, jk, jk, jk, jk, jk, jk, jk, jk, jk, jk, jk, jk, jk, jk, jk, jk, jk, jk, jk, jk, jk, jk, jk, jk, jk, jk, jk, jk, jk, jk, jk, jk, jk, jk, jk, jk, jk, jk, jk, jk, jk, jk, jk, jk, jk, jk, jk, jk, jk, jk, jk, jk, jk, jk, jk, jk, jk, jk, jk, jk, jk, jk, jk, jk, jk, jk, jk, jk, jk, jk, jk, jk, jk, jk, jk, jk, jk, jk, jk, jk, jk, jk, jk, jk, jk, jk, jk, jk, jk, jk, jk, jk, jk, jk, jk, jk, jk, jk, jk, jk, jk, jk, jk, jk, jk, jk, jk, jk], Hm [(2, bx0), (5, bxV last), (12, mxF 12 n n (npart k last g' i q.i))]⟩) (fun q => n - q.i) ⟨k + 1, by omega, by omega⟩ ?_ ?_
                · refine Weak_sub ⟨rfl, rfl, rfl, trivial⟩ ?_
                  simp [wkL, okTV, okAV]
                · rintro ⟨j, hkj, hjn⟩
                  simp only
                  by_cases hj : j < n
                  · have a1 := spn_get (n := n) (i := i) 12 n hi
                    have a2 := spn_get (n := n) (i := k) 12 n hm
                    have a3 := mxr_get n (npart k last g' i j) hi
                    have a4 := mxr_get n (npart k last g' i j) hm
                    have a5 : (rowF n (npart k last g' i j k))[k]? = some (g' k k) := by rw [rowF_get _ hm, np_same _ _ (by omega)]
                    have a6 : (rowF n (npart k last g' i j i))[j]? = some (g' i j) := by rw [rowF_get _ hj, np_same _ _ (by omega)]
                    have a7 : (rowF n (npart k last g' i j i))[k]? = some (g' i k) := by rw [rowF_get _ hm, np_same _ _ (by omega)]
                    have a8 : (rowF n (npart k last g' i j k))[j]? = some (g' k j) := by rw [rowF_get _ hj, np_same _ _ (by omega)]
                    have z1 := hsz k k hm hm
                    have z2 := hsz i j hi hj
                    have z3 := hsz i k hi hm
                    have z4 := hsz k j hm hj
                    have c1 := Mul_C (g' k k) (g' i j) (z1.mono (by omega)) (z2.mono (by omega))
                    have c2 := Mul_C (g' i k) (g' k j) (z3.mono (by omega)) (z4.mono (by omega))
                    have c3 := Sub_C (g' k k * g' i j) (g' i k * g' k j) ((z1.mul z2).mono (by omega)) ((z3.mul z4).mono (by omega))
                    have c4 := Quo_C (g' k k * g' i j - g' i k * g' k j) last hl (((z1.mul z2).sub (z3.mul z4)).mono (by omega)) (slz.mono (by omega))
                    (refine WpA_seq (WpA_sreg [] [] (by simp) fun K hK => ?_); simp (disch := omega) only [kc, prep1, Nat.reduceAdd, Hm, effM, evBin, decT]; (with_reducible refine hK _ ?_))
                    refine WpA_cond rfl (fun _ => WpA_skip ?_) (fun h => by simp at h <;> omega)
                    refine WpA_seq (WpA_block ?_)
                    ((refine WpA_ldraw mixedA [⟨19, _, _, _, c1⟩, ⟨34, _, _, _, c2⟩, ⟨35, _, _, _, c3⟩, ⟨37, _, _, _, c4⟩] [] (by kernel_rfl) (by simp) fun K hK => ?_); simp (disch := omega) only [kc, tZ, CItem.a, prep1, Nat.reduceAdd, opS_indexAddr, effR, natOf_pos, ty_slice50, Nat.reduceEqDiff, ifF, ty_sz122, ifT, a1, packT, ty_agg122, a2, ty_slice122, a4, ty_sz79, lc_get, fZ, a5, ty_agg79, Nat.le_refl, a3, a6, opS_call, newS, effA, List.find?_cons, evAll, norm, CallRes.plain, rawTV, rawAV, normOk, isPure, noRefTV, noRefAV, renTV, renAV, a7, a8, Nat.reduceBEq, opS_store, wrS, effD, cellsOf, putCells, mxr_set, killTV, killAV]; (with_reducible refine hK _ ?_))
                    show WpA _ _ _ _
                    ((refine WpA_lreg [] [] (by simp) fun K hK => ?_); simp (disch := omega) only [kc, prep1, Nat.reduceAdd, effM, ofConst, Value.oneCell', evBin, wrapI]; (with_reducible refine hK _ ?_))
                    refine ⟨⟨j + 1, by omega, by omega⟩, by simp only; omega, Weak_sub ⟨rfl, rfl, ?_, trivial⟩ ?_⟩
                    · show _ :: _ = _ :: _
                      rw [mxr_congr fun a b _ _ => np_step last g' hki hkj a b]
                    · simp [wkL, okTV, okAV]
                  · have hjn' : j = n := by omega
                    subst hjn'
                    (refine WpA_seq (WpA_sreg [] [] (by simp) fun K hK => ?_); simp (disch := omega) only [kc, prep1, Nat.reduceAdd, Hm, effM, evBin, decF]; (with_reducible refine hK _ ?_))
                    refine WpA_cond rfl (fun h => by simp at h <;> omega) (fun _ => WpA_exit ?_)
                    show WpA _ _ _ _
                    ((refine WpA_lreg [] [] (by simp) fun K hK => ?_); simp (disch := omega) only [kc, prep1, Nat.reduceAdd, effM, ofConst, Value.oneCell', evBin, wrapI]; (with_reducible refine hK _ ?_))
                    refine ⟨⟨i + 1, by omega, by omega⟩, by simp only; omega, Weak_sub ⟨rfl, rfl, ?_, trivial⟩ ?_⟩
                    · show _ :: _ = _ :: _
                      rw [mxr_congr fun a b _ hb => np_row last g' i a b hb]
                    · simp [wkL, okTV, okAV]
              · have hin' : i = n := by omega
                subst hin'
                have a2 := spn_get (n := i) (i := k) 12 i hm
                have a4 := mxr_get i (npart k last g' i (k + 1)) hm
                have a5 : (rowF i (npart k last g' i (k + 1) k))[k]? = some (g' k k) := by rw [rowF_get _ hm, np_same _ _ (by omega)]
                (refine WpA_seq (WpA_sreg [] [] (by simp) fun K hK => ?_); simp (disch := omega) only [kc, prep1, Nat.reduceAdd, Hm, effM, evBin, decF]; (with_reducible refine hK _ ?_))
                refine WpA_cond rfl (fun h => by simp at h <;> omega) (fun _ => WpA_exit ?_)
                show WpA _ _ _ _
                ((refine WpA_lreg [] [] (by simp) fun K hK => ?_); simp (disch := omega) only [kc, prep1, Nat.reduceAdd, opS_indexAddr, effR, natOf_pos, ty_slice50, Nat.reduceEqDiff, ifF, ty_sz122, ifT, a2, packT, ty_agg122, ty_slice122, a4, ty_sz79, lc_get, fZ, a5, ty_agg79, Nat.le_refl, opS_store, wrS, effD, cellsOf, isPure, putCells, killTV, killAV]; (with_reducible refine hK _ ?_))
                show WpA _ _ _ _
                ((refine WpA_lreg [] [] (by simp) fun K hK => ?_); simp (disch := omega) only [kc, prep1, Nat.reduceAdd, effM, ofConst, Value.oneCell', evBin, wrapI]; (with_reducible refine hK _ ?_))
                refine ⟨⟨k + 1, nxt k last g', g' k k, neg', 2 * b + 1, by omega, by rw [← hvk, hv], hkk, by rw [Nat.pow_succ]; omega, fun x y hx hy => ?_, (hsz k k hm hm).mono (by omega)⟩, by simp only; omega, Weak_sub ⟨rfl, rfl, ?_, trivial⟩ ?_⟩
                · unfold nxt
                  split
                  · exact ((((hsz k k hm hm).mul (hsz x y hx hy)).sub ((hsz x k hx hm).mul (hsz k y hm hy))).ediv last).mono (by omega)
                  · exact (hsz x y hx hy).mono (by omega)
                · show _ :: _ = _ :: _
                  rw [mxr_congr fun a b ha _ => np_end last g' a b ha]
                · simp [wkL, okTV, okAV]
    · have hkn : k = n := by omega
      subst hkn
      rw [detG, if_neg hm] at hv
      have h2k := pow_bound (k := k) hn
      have hN := neg_C last (slz.mono (by omega))
      (refine WpA_seq (WpA_sreg [] [] (by simp) fun K hK => ?_); simp (disch := omega) only [kc, prep1, Nat.reduceAdd, Hm, effM, evBin, decF]; (with_reducible refine hK _ ?_))
      refine WpA_cond rfl (fun h => by simp at h <;> omega) (fun _ => WpA_exit ?_)
      show WpA _ _ _ _
      (refine WpA_seq (WpA_sreg [] [] (by simp) fun K hK => ?_); simp (disch := omega) only [kc, prep1]; (with_reducible refine hK _ ?_))
      cases neg with
      | true =>
        rw [if_pos rfl] at hv
        refine WpA_cond rfl (fun _ => ?_) (fun h => by simp at h)
        (refine WpA_sreg [⟨1, _, _, _, hN⟩] [] (by simp) fun K hK => ?_; simp (disch := omega) only [kc, tZ, CItem.a, prep1, Nat.reduceAdd, effR, Nat.reduceEqDiff, ifF, packT, ty_sz79, ty_agg79, Nat.le_refl, opS_call, newS, effA, List.find?_cons, evAll, norm, CallRes.plain, rawTV, rawAV, normOk, isPure, noRefTV, noRefAV, renTV, renAV, opS_store, wrS, effD, cellsOf, ifT, putCells, killTV, killAV]; (with_reducible refine hK _ ?_))
        rw [← hv]
        (refine WpA_ret ⟨.inr rfl, ret_now rfl ?_ rfl⟩; simp (disch := omega) only [kc, resA, Tryz.results102, resOne, updH, Nat.reduceEqDiff, ifF, packT, ty_sz79, ty_agg79, Nat.reduceAdd, Nat.le_refl, tZ])
      | false =>
        rw [if_neg (by simp)] at hv
        refine WpA_cond rfl (fun h => by simp at h) (fun _ => WpA_skip ?_)
        show WpA _ _ _ _
        (refine WpA_sreg [] [] (by simp) fun K hK => ?_; simp (disch := omega) only [kc, prep1, effR, Nat.reduceEqDiff, ifF, packT, ty_sz79, ty_agg79, Nat.reduceAdd, Nat.le_refl, opS_store, wrS, effD, cellsOf, isPure, ifT, putCells, killTV, killAV]; (with_reducible refine hK _ ?_))
        rw [← hv]
        (refine WpA_ret ⟨.inr rfl, ret_now rfl ?_ rfl⟩; simp (disch := omega) only [kc, resA, Tryz.results102, resOne, updH, Nat.reduceEqDiff, ifF, packT, ty_sz79, ty_agg79, Nat.reduceAdd, Nat.le_refl, tZ])
end Go.Proofs.YtobnpabndpmabaaGreat
namespace Go.Proofs.YtobnpabndpmabaaGreat
open Go.RowKit
section
variable {P : Program}
theorem runL_suf {items : List (Item P)} (hI : ItemsOk P items) {ow : List Nat} {ops : Array Oper} {w0 : World} {O X : Nat → Prop} {Q : Exit → Act → World → Prop} {suf : List Nat} : ∀ (l : List Oper) (k : Nat) (s s' : AS) (a : Act) (w : World), (∀ (j : Nat) o, l[j]? = some o → ops[k + j]? = some o) →
    runL P items ow ops (l.zipIdx k) s = some s' → Rel w0 O X s a w → (∀ a' w', Rel w0 O X s' a' w' → wpOps P ops Q suf a' w') → wpOps P ops Q (List.range' k l.length ++ suf) a w
  | [], k, s, s', a, w, _, h, r, hQ => by
    simp only [List.zipIdx_nil, runL] at h
    injection h with h
    subst h
    exact hQ a w r
  | o :: l, k, s, s', a, w, hl, h, r, hQ => by
    simp only [List.zipIdx_cons, runL] at h
    split at h
    · rename_i s1 hs1
      simp only [List.length_cons, List.range'_succ, List.cons_append, wpOps]
      have ho : ops[k]? = some o := by have := hl 0 o rfl; simpa using this
      rw [ho]
      simp only
      have := absStep_wp (Q := Q) hI r hs1 (K := wpOps P ops Q (List.range' (k + 1) l.length ++ suf)) (fun v w' hr => runL_suf hI l (k + 1) s1 s' _ _ (fun j o hj => by have := hl (j + 1) o (by simpa using hj); rwa [show k + (j + 1) = k + 1 + j by omega] at this) h hr hQ)
      split at this
      · rename_i hw; rw [if_pos hw]; exact .inl this
      · rename_i hw; rw [if_neg hw]; exact this
    · cases h
theorem WpA_region2 (m : Nat) (items : List (Item P)) (hI : ItemsOk P items) (ow : List Nat) {id : Nat} {ops : Array Oper} {s s1 s2 s' : AS} {Q : Exit → AS → Prop} (h1 : runL P items ow ops ((ops.toList.take m).zipIdx 0) s = some s1) (hw : Weak s1 s2)
    (h2 : runL P items ow ops ((ops.toList.drop m).zipIdx (ops.toList.take m).length) s2 = some s') (hQ : Q .normal s') : WpA P (.region id ops false) Q s := fun w0 O X a w r => by
  refine wp_region ?_
  have hsz : ops.size = (ops.toList.take m).length + (ops.toList.drop m).length := by simp; omega
  rw [hsz, List.range_eq_range', ← List.range'_append_1, Nat.zero_add]
  refine runL_suf hI (ops.toList.take m) 0 s s1 a w (fun j o hj => ?_) h1 r fun a' w' r' => ?_
  · rw [List.getElem?_take] at hj
    split at hj
    · simpa using hj
    · cases hj
  · refine runL_wpOps hI (Q := fun e a' w' => ∃ s', Q e s' ∧ Rel w0 O X s' a' w') (ops.toList.drop m) _ s2 s' a' w' (fun j o hj => ?_) h2 (hw _ _ _ _ _ r') (fun a' w' hr => ⟨s', hQ, hr⟩)
    rw [List.getElem?_drop] at hj
    have hlt := (List.getElem?_eq_some_iff.1 hj).1
    have hm : (ops.toList.take m).length = m := by
      rw [List.length_take]; omega
    rw [hm]
    simpa using hj
theorem WpA_wsreg (m : Nat) (items : List (CItem P)) (ow : List Nat) {id : Nat} {ops : Array Oper} {y : Code} {s : AS} {Q : Exit → AS → Prop} (hl : s.tmps.length ≤ 1000000) (hm : m ≤ ops.toList.length)
    (h : ∀ K : AS → Prop, (∀ s1, (∃ s2, Weak s1 s2 ∧ s2.tmps.length ≤ 1000000 ∧ ∀ K : AS → Prop, (∀ s', WpA P y Q s' → K s') → runS P (items.map CItem.a) ow (prepL ops (ops.toList.drop m) m) (some s2) K) → K s1) → runS P (items.map CItem.a) ow (prepL ops (ops.toList.take m) 0) (some s) K) : WpA P (.seq (.region id ops false) y) Q s := by
  obtain ⟨s1, h1, s2, hw, hl2, h2⟩ := runS_sound P (items.map CItem.a) ow ops _ 0 s _ hl (h _ fun _ h => h)
  obtain ⟨s', h3, h4⟩ := runS_sound P (items.map CItem.a) ow ops _ m s2 _ hl2 (h2 _ fun _ h => h)
  refine WpA_seq (WpA_region2 m _ (CItem.ok items) ow h1 hw ?_ h4)
  rwa [show (ops.toList.take m).length = m by rw [List.length_take]; omega]
end
end Go.Proofs.YtobnpabndpmabaaGreat
namespace Go.Proofs.YtobnpabndpmabaaGreat
open Go.RowKit
theorem sz_lt {z : Int} {k : Nat} (h : z.natAbs < 4294967296) (hk : 1 ≤ k) : Sz z k := by
  have : Sz z 1 := by unfold Sz; simpa using h
  exact this.mono hk
theorem sz_zero (k : Nat) : Sz 0 k := by unfold Sz; exact Nat.pow_pos (by omega)
theorem swp_sz {n p k b : Nat} {g : Nat → Nat → Int} (hp : p < n) (hk : k < n) (h : ∀ i j, i < n → j < n → Sz (g i j) b) : ∀ i j, i < n → j < n → Sz (swp p k g i j) b := fun i j hi hj => by
  unfold swp
  split
  · exact h k j hk hj
  · split
    · exact h p j hp hj
    · exact h i j hi hj
theorem nxt_sz {n k b : Nat} {g : Nat → Nat → Int} (last : Int) (hk : k < n) (h : ∀ i j, i < n → j < n → Sz (g i j) b) : ∀ i j, i < n → j < n → Sz (nxt k last g i j) (2 * b + 1) := fun x y hx hy => by
  unfold nxt
  split
  · exact ((((h k k hk hk).mul (h x y hx hy)).sub ((h x k hx hk).mul (h k y hk hy))).ediv last).mono (by omega)
  · exact (h x y hx hy).mono (by omega)
theorem detG_sz {n : Nat} (hn : n ≤ 16) : ∀ m k g last neg b, n - k = m → k ≤ n → (∀ i j, i < n → j < n → Sz (g i j) b) → Sz last b → b + 1 ≤ 1025 * 2 ^ k → Sz (detG n k g last neg) 67174400
  | 0, k, g, last, neg, b, hm, hk, hg, hl, hb => by
    have h2k := pow_bound (k := k) (by omega)
    rw [detG, if_neg (by omega)]
    split
    · exact hl.neg.mono (by omega)
    · exact hl.mono (by omega)
  | m + 1, k, g, last, neg, b, hm, hk, hg, hl, hb => by
    rw [detG, if_pos (by omega)]
    split
    · exact sz_zero _
    · rename_i hp
      have hpl := piv_le (f := g) (n := n) (k := k) (n - k) k rfl
      have hs := swp_sz (p := piv g n k k) (k := k) (by omega) (by omega) hg
      exact detG_sz hn m (k + 1) _ _ _ (2 * b + 1) (by omega) (by omega) (nxt_sz last (by omega) hs) ((hs k k (by omega) (by omega)).mono (by omega)) (by rw [Nat.pow_succ]; omega)
theorem detF_sz {n : Nat} {f : Nat → Nat → Int} (hn : n ≤ 16) (hf : ∀ i j, i < n → j < n → Sz (f i j) 1024) : Sz (detF n f) 67174400 :=
  detG_sz hn n 0 f 1 false 1024 rfl (by omega) hf (sz_one (by omega)) (by omega)
theorem mat_head {n c : Nat} (f : Nat → Nat → Int) (h : 1 ≤ n) : ((mat n c f).headD []).length = c := by
  have := headD_at (M := mat n c f) (by rw [mat_len]; omega)
  rw [mat_get _ _ (by omega)] at this
  injection this with this
  rw [← this, rowF_len]
theorem mat_ShP {n c : Nat} (f : Nat → Nat → Int) (hn1 : 1 ≤ n) (hn : n ≤ 16) (hc1 : 1 ≤ c) (hc : c ≤ 16) : ShP (mat n c f) := by
  refine ⟨by rw [mat_len]; omega, by rw [mat_len]; omega, fun r hr => ?_⟩
  obtain ⟨i, hi⟩ := List.mem_iff_getElem?.1 hr
  have hin : i < n := by
    have := (List.getElem?_eq_some_iff.1 hi).1
    rwa [mat_len] at this
  rw [mat_get _ _ hin] at hi
  injection hi with hi
  rw [← hi, rOk, rowF_len, mat_head f hn1]
  omega
theorem ShP_mat {M : List (List Int)} (h : ShP M) : M = mat M.length (M.headD []).length (ent M) := mat_ent fun r hr => (h.2.2 r hr).2.2
theorem sqT_yes {n : Nat} (f : Nat → Nat → Int) (hn1 : 1 ≤ n) (hn : n ≤ 16) : sqT (mat n n f) = .tup [(false, [.p (.raw (.int .i64 (n : Int)))]), (false, [.p (.raw (.bool true))])] := by
  have h : SqP (mat n n f) := ⟨mat_ShP f hn1 hn hn1 hn, by rw [mat_len, mat_head f hn1]⟩
  unfold sqT; rw [if_pos h, mat_len]
theorem sqT_no {n c : Nat} (f : Nat → Nat → Int) (hn1 : 1 ≤ n) (h : n ≠ c) : sqT (mat n c f) = .tup [(false, [.p (.raw (.int .i64 0))]), (false, [.p (.raw (.bool false))])] := by
  unfold sqT; rw [if_neg]
  intro hs
  have := hs.2
  rw [mat_len, mat_head f hn1] at this
  exact h this
abbrev ldF (n : Nat) (f : Nat → Nat → Int) : List Int := rowF n fun k => detF (k + 1) f
def ldT (n : Nat) (f : Nat → Nat → Int) : TV := .tup [(false, [.p (.sl (ls fZ (ldF n f)))]), (false, [.p (.raw (.bool true))])]
theorem sel_lead (k : Nat) (f : Nat → Nat → Int) : ((List.range (k + 1)).map fun i => (List.range (k + 1)).map (f i)) = mat (k + 1) (k + 1) f := rfl
set_option maxRecDepth 100000 in
set_option maxHeartbeats 8000000 in
theorem Leading_C (n : Nat) (f : Nat → Nat → Int) (hn1 : 1 ≤ n) (hn : n ≤ 16) (hf : ∀ i j, i < n → j < n → Sz (f i j) 1024) : CallC Tryz.prog 104 [slM (mat n n f)] ⟨[], ldT n f⟩ := by
  have hSq := Square_C (mat n n f)
  rw [sqT_yes f hn1 hn] at hSq
  refine callC_of Tryz.func104 rfl (by kernel_rfl) ?_; rw [Tryz.ntmps104]
  (refine WpA_sreg [] [] (by simp) fun K hK => ?_; simp (disch := omega) only [kc, prep1, slM, List.replicate, ofConst, Value.oneCell']; (with_reducible refine hK _ ?_))
  (refine WpA_sreg [⟨1, _, _, _, hSq⟩] [] (by simp) fun K hK => ?_; simp (disch := omega) only [kc, slM, CItem.a, prep1, Nat.reduceAdd, opS_call, newS, effA, List.find?_cons, evAll, norm, CallRes.plain, rawTV, rawAV, normOk, noRefTV, noRefAV, renTV, renAV, opS_extract, effM]; (with_reducible refine hK _ ?_))
  (refine WpA_seq (WpA_sreg [] [] (by simp) fun K hK => ?_); simp (disch := omega) only [kc, prep1, opS_un, effM, evUn]; (with_reducible refine hK _ ?_))
  refine WpA_cond rfl (fun h => by simp at h) (fun _ => WpA_skip ?_)
  show WpA _ _ _ _
  (refine WpA_sreg [] [] (by simp) fun K hK => ?_; simp (disch := omega) only [kc, prep1, ofConst, Value.oneCell']; (with_reducible refine hK _ ?_))
  (refine WpA_seq (WpA_sreg [] [] (by simp) fun K hK => ?_); simp (disch := omega) only [kc, prep1, ofConst, Value.oneCell']; (with_reducible refine hK _ ?_))
  refine WpA_forb (G := FiG n) (fun g => ⟨[slM (mat n n f), jk, .raw (.slice none 0 0), .raw (.bool false), .raw (.int .i64 (n : Int)), jk, .one (.sl 31 0 0 g.i), .raw (.int .i64 (g.i : Int)), jk, jk, jk, jk, jk, jk, jk, jk, jk, jk, jk, jk, jk, jk, jk, jk, jk, jk, jk, jk, jk, jk, jk, jk, jk], Hm [(31, [⟨79, 2, lc fZ (ldF g.i f)⟩])]⟩) (fun g => n - g.i) ⟨0, by omega⟩ ?_ ?_
  · refine (Weak_nil (k := 6) (d := 31) 79 2 (by omega) rfl rfl).trans (Weak_sub ⟨rfl, trivial⟩ ?_)
    simp [wkL, okTV, okAV]
  · rintro ⟨k, hk⟩
    simp only
    by_cases hm : k < n
    · have c1 := first_C k k (by omega) (by omega)
      rw [← List.range_succ] at c1
      have c2 := Select_C n n f (List.range (k + 1)) (List.range (k + 1)) hn hn (fun x hx => by have := List.mem_range.1 hx; omega) (fun x hx => by have := List.mem_range.1 hx; omega) (by simp; omega) (by simp; omega)
      rw [sel_lead] at c2
      have c3 := Determinant_C (k + 1) f (by omega) (by omega) (fun i j hi hj => hf i j (by omega) (by omega))
      have e1 : lc fZ (ldF k f) ++ [[.p (.raw (.bool (decide (detF (k + 1) f < 0)))), .p (.sl (ls fU (limbs (detF (k + 1) f).natAbs)))]] = lc fZ (ldF (k + 1) f) := by
        rw [lcZ_snoc, ldF, ldF, rowF_snoc k]
      (refine WpA_seq (WpA_sreg [] [] (by simp) fun K hK => ?_); simp (disch := omega) only [kc, prep1, Nat.reduceAdd, slM, Hm, effM, evBin, decT]; (with_reducible refine hK _ ?_))
      refine WpA_cond rfl (fun _ => WpA_skip ?_) (fun h => by simp at h <;> omega)
      refine WpA_seq (WpA_block ?_)
      ((refine WpA_lreg [⟨4, _, _, _, c1⟩, ⟨7, _, _, _, c1⟩, ⟨8, _, _, _, c2⟩, ⟨9, _, _, _, c3⟩] [] (by simp) fun K hK => ?_); simp (disch := omega) only [kc, slN, slM, tZ, CItem.a, prep1, Nat.reduceAdd, opS_call, newS, effA, List.find?_cons, evAll, norm, CallRes.plain, rawTV, rawAV, normOk, noRefTV, noRefAV, renTV, renAV, Nat.reduceBEq, opS_buildSlice, ty_slice122, ty_zero79, ty_sz79, litA, cellsOf, isPure, Nat.reduceMul, Nat.reduceLeDiff, List.contains_nil, unP, ifT, opS_append, appS, effD, newsOf, ty_by79, lc_allp, lc_len, rowF_len, allcons, allnil, and_true, killO, lc_kill, e1, wrS, killTV, killAV]; (with_reducible refine hK _ ?_))
      show WpA _ _ _ _
      ((refine WpA_lreg [] [] (by simp) fun K hK => ?_); simp (disch := omega) only [kc, prep1, Nat.reduceAdd, effM, ofConst, Value.oneCell', evBin, wrapI]; (with_reducible refine hK _ ?_))
      refine ⟨⟨k + 1, by omega⟩, by simp only; omega, Weak_sub ⟨rfl, trivial⟩ ?_⟩
      simp [wkL, okTV, okAV]
    · have hkn : k = n := by omega
      subst hkn
      (refine WpA_seq (WpA_sreg [] [] (by simp) fun K hK => ?_); simp (disch := omega) only [kc, prep1, Nat.reduceAdd, slM, Hm, effM, evBin, decF]; (with_reducible refine hK _ ?_))
      refine WpA_cond rfl (fun h => by simp at h <;> omega) (fun _ => WpA_exit ?_)
      show WpA _ _ _ _
      (refine WpA_sreg [] [] (by simp) fun K hK => ?_; simp (disch := omega) only [kc, prep1, Nat.reduceAdd, ofConst, Value.oneCell']; (with_reducible refine hK _ ?_))
      refine WpA_ret ⟨.inr rfl, ret_fz 31 (fzOk_one rfl) ?_ rfl⟩
      have eT : List.take k (ldF k f) = ldF k f := List.take_of_length_le (by rw [rowF_len]; omega)
      simp (disch := omega) only [kc, resA, Tryz.results104, resL, resOne, fzTV, fzAV, ifT, lc_take, eT, lc_cellF, tvPair, ldT]
structure SyG (n : Nat) (f : Nat → Nat → Int) where
  i : Nat
  hi : i ≤ n
  ok : ∀ a, a < i → ∀ b, b < a → f a b = f b a
structure SyI (n i : Nat) (f : Nat → Nat → Int) where
  j : Nat
  hj : j ≤ i
  ok : ∀ b, b < j → f i b = f b i
theorem cmpZ_self (a : Int) : cmpZ a a = 0 := by simp [cmpZ]
theorem cmpZ_ne' {a b : Int} (h : a ≠ b) : cmpZ a b ≠ 0 := by unfold cmpZ; split <;> (try split) <;> omega
set_option maxRecDepth 100000 in
set_option maxHeartbeats 8000000 in
theorem Symmetric_C (n : Nat) (f : Nat → Nat → Int) (hn : n ≤ 16) (hf : ∀ i j, i < n → j < n → Sz (f i j) 1024) (r : Bool) (hr : r = true ↔ SymF f n) : CallC Tryz.prog 100 [slM (mat n n f)] ⟨[], .raw (.bool r)⟩ := by
  have hml := mat_len n n f
  refine callC_of Tryz.func100 rfl (by kernel_rfl) ?_; rw [Tryz.ntmps100]
  (refine WpA_sreg [] [] (by simp) fun K hK => ?_; simp (disch := omega) only [kc, prep1, slM, List.replicate, ofConst, Value.oneCell']; (with_reducible refine hK _ ?_))
  (refine WpA_seq (WpA_sreg [] [] (by simp) fun K hK => ?_); simp (disch := omega) only [kc, prep1, Nat.reduceAdd, opS_len, effR, ty_slice50, ls_len, hml, ofConst, Value.oneCell']; (with_reducible refine hK _ ?_))
  refine WpA_forb (G := SyG n f) (fun g => ⟨[slM (mat n n f), jk, .raw (.bool false), jk, jk, jk, .raw (.int .i64 (n : Int)), .raw (.int .i64 (g.i : Int)), jk, jk, jk, jk, jk, jk, jk, jk, jk, jk, jk, jk, jk, jk, jk, jk, jk, jk, jk, jk, jk, jk, jk, jk], Hm []⟩) (fun g => n - g.i) ⟨0, by omega, fun a ha => by omega⟩ ?_ ?_
  · refine Weak_sub trivial ?_
    simp [wkL, okTV, okAV]
  · rintro ⟨i, hi, ok⟩
    simp only
    by_cases hm : i < n
    · (refine WpA_sreg [] [] (by simp) fun K hK => ?_; simp (disch := omega) only [kc, prep1, slM, Hm, effM, evBin, decT]; (with_reducible refine hK _ ?_))
      refine WpA_seq (WpA_cond rfl (fun _ => WpA_skip ?_) (fun h => by simp at h <;> omega))
      refine WpA_seq (WpA_block ?_)
      (refine WpA_sreg [] [] (by simp) fun K hK => ?_; simp (disch := omega) only [kc, prep1]; (with_reducible refine hK _ ?_))
      (refine WpA_sreg [] [] (by simp) fun K hK => ?_; simp (disch := omega) only [kc, prep1, ofConst, Value.oneCell']; (with_reducible refine hK _ ?_))
      refine WpA_forb (G := SyI n i f) (fun g => ⟨[slM (mat n n f), jk, .raw (.bool false), .raw (.int .i64 (i : Int)), .raw (.int .i64 (g.j : Int)), jk, .raw (.int .i64 (n : Int)), .raw (.int .i64 (i : Int)), jk, jk, jk, jk, jk, jk, jk, jk, jk, jk, jk, jk, jk, jk, jk, jk, jk, jk, jk, jk, jk, jk, jk, jk], Hm []⟩) (fun g => i - g.j) ⟨0, by omega, fun a ha => by omega⟩ ?_ ?_
      · refine Weak_sub trivial ?_
        simp [wkL, okTV, okAV]
      · rintro ⟨j, hj, okj⟩
        simp only
        by_cases hm2 : j < i
        · have a1 := mat_get n f hm
          have a2 := mat_get n f (show j < n by omega)
          have a3 := rowF_get (f i) (show j < n by omega)
          have a4 := rowF_get (f j) hm
          have c1 := Cmp_C (f i j) (f j i) ((hf i j hm (by omega)).mono (by omega)) ((hf j i (by omega) hm).mono (by omega))
          by_cases he : f i j = f j i
          · rw [he, cmpZ_self] at c1
            rw [he] at a3
            (refine WpA_seq (WpA_sreg [] [] (by simp) fun K hK => ?_); simp (disch := omega) only [kc, prep1, Nat.reduceAdd, slM, Hm, effM, evBin, decT]; (with_reducible refine hK _ ?_))
            refine WpA_cond rfl (fun _ => WpA_skip ?_) (fun h => by simp at h <;> omega)
            refine WpA_seq (WpA_block ?_)
            (refine WpA_sdraw mixedA [⟨14, _, _, _, c1⟩] [] (by kernel_rfl) (by simp) fun K hK => ?_; simp (disch := omega) only [kc, tZ, CItem.a, prep1, Nat.reduceAdd, opS_indexAddr, effR, natOf_pos, ty_slice50, ls_get, a1, fR, ty_sz122, packT, ty_agg122, ty_slice122, a3, fZ, ty_sz79, ty_agg79, Nat.le_refl, a2, a4, opS_call, newS, effA, List.find?_cons, evAll, norm, CallRes.plain, rawTV, rawAV, normOk, isPure, noRefTV, noRefAV, renTV, renAV, effM, ofConst, Value.oneCell', evBin, decT]; (with_reducible refine hK _ ?_))
            refine WpA_cond rfl (fun h => by simp at h) (fun _ => WpA_skip ?_)
            show WpA _ _ _ _
            ((refine WpA_lreg [] [] (by simp) fun K hK => ?_); simp (disch := omega) only [kc, prep1, Nat.reduceAdd, effM, ofConst, Value.oneCell', evBin, wrapI]; (with_reducible refine hK _ ?_))
            refine ⟨⟨j + 1, by omega, fun b hb => ?_⟩, by simp only; omega, Weak_sub trivial ?_⟩
            · by_cases e : b = j
              · subst e; exact he
              · exact okj b (by omega)
            · simp [wkL, okTV, okAV]
          · have hr0 : r = false := by
              cases r with
              | false => rfl
              | true => exact absurd (hr.1 rfl i hm j (by omega)) he
            subst hr0
            have hne := cmpZ_ne' he
            (refine WpA_seq (WpA_sreg [] [] (by simp) fun K hK => ?_); simp (disch := omega) only [kc, prep1, Nat.reduceAdd, slM, Hm, effM, evBin, decT]; (with_reducible refine hK _ ?_))
            refine WpA_cond rfl (fun _ => WpA_skip ?_) (fun h => by simp at h <;> omega)
            refine WpA_seq (WpA_block ?_)
            (refine WpA_sdraw mixedA [⟨14, _, _, _, c1⟩] [] (by kernel_rfl) (by simp) fun K hK => ?_; simp (disch := omega) only [kc, tZ, CItem.a, prep1, Nat.reduceAdd, opS_indexAddr, effR, natOf_pos, ty_slice50, ls_get, a1, fR, ty_sz122, packT, ty_agg122, ty_slice122, a3, fZ, ty_sz79, ty_agg79, Nat.le_refl, a2, a4, opS_call, newS, effA, List.find?_cons, evAll, norm, CallRes.plain, rawTV, rawAV, normOk, isPure, noRefTV, noRefAV, renTV, renAV, effM, ofConst, Value.oneCell', evBin, decF, Bool.not_false]; (with_reducible refine hK _ ?_))
            refine WpA_cond rfl (fun _ => ?_) (fun h => by simp at h <;> omega)
            (refine WpA_sreg [] [] (by simp) fun K hK => ?_; simp (disch := omega) only [kc, prep1, ofConst, Value.oneCell']; (with_reducible refine hK _ ?_))
            (refine WpA_ret ⟨.inr rfl, ret_now rfl ?_ rfl⟩; simp (disch := omega) only [resA, Tryz.results100, resOne, List.getElem?_cons_succ, List.getElem?_cons_zero])
        · (refine WpA_seq (WpA_sreg [] [] (by simp) fun K hK => ?_); simp (disch := omega) only [kc, prep1, Nat.reduceAdd, slM, Hm, effM, evBin, decF]; (with_reducible refine hK _ ?_))
          refine WpA_cond rfl (fun h => by simp at h <;> omega) (fun _ => WpA_exit ?_)
          show WpA _ _ _ _
          ((refine WpA_lreg [] [] (by simp) fun K hK => ?_); simp (disch := omega) only [kc, prep1, effM, ofConst, Value.oneCell', evBin, wrapI]; (with_reducible refine hK _ ?_))
          refine ⟨⟨i + 1, by omega, fun a ha b hb => ?_⟩, by simp only; omega, Weak_sub trivial ?_⟩
          · by_cases e : a = i
            · subst e; exact okj b (by omega)
            · exact ok a (by omega) b hb
          · simp [wkL, okTV, okAV]
    · have hr1 : r = true := hr.2 fun a ha b hb => by
        rcases Nat.lt_trichotomy a b with h | h | h
        · exact (ok b (by omega) a h).symm
        · rw [h]
        · exact ok a (by omega) b h
      subst hr1
      (refine WpA_sreg [] [] (by simp) fun K hK => ?_; simp (disch := omega) only [kc, prep1, slM, Hm, effM, evBin, decF]; (with_reducible refine hK _ ?_))
      refine WpA_seq (WpA_cond rfl (fun h => by simp at h <;> omega) (fun _ => WpA_exit ?_))
      show WpA _ _ _ _
      (refine WpA_sreg [] [] (by simp) fun K hK => ?_; simp (disch := omega) only [kc, prep1, ofConst, Value.oneCell']; (with_reducible refine hK _ ?_))
      (refine WpA_ret ⟨.inr rfl, ret_now rfl ?_ rfl⟩; simp (disch := omega) only [resA, Tryz.results100, resOne, List.getElem?_cons_succ, List.getElem?_cons_zero])
structure DfG (n : Nat) (f : Nat → Nat → Int) where
  i : Nat
  hi : i ≤ n
  ok : ∀ a, a < i → 0 < detF (a + 1) f
theorem sg_pos {z : Int} (h : 0 < z) : sg z = 1 := by unfold sg; rw [if_neg (by omega), if_neg (by omega)]
theorem sg_npos {z : Int} (h : ¬ 0 < z) : sg z ≤ 0 := by unfold sg; split <;> (try split) <;> omega
set_option maxRecDepth 100000 in
set_option maxHeartbeats 8000000 in
theorem Definite_C (n : Nat) (f : Nat → Nat → Int) (hn1 : 1 ≤ n) (hn : n ≤ 16) (hf : ∀ i j, i < n → j < n → Sz (f i j) 1024) (hs : SymF f n) (r : Bool) (hr : r = true ↔ PosF f n) : CallC Tryz.prog 101 [slM (mat n n f)] ⟨[], .raw (.bool r)⟩ := by
  have hL := Leading_C n f hn1 hn hf
  have hS := Symmetric_C n f hn hf true (by simp [hs])
  refine callC_of Tryz.func101 rfl (by kernel_rfl) ?_; rw [Tryz.ntmps101]
  (refine WpA_sreg [] [] (by simp) fun K hK => ?_; simp (disch := omega) only [kc, prep1, slM, List.replicate, ofConst, Value.oneCell']; (with_reducible refine hK _ ?_))
  (refine WpA_sreg [⟨1, _, _, _, hL⟩] [] (by simp) fun K hK => ?_; simp (disch := omega) only [kc, slM, ldT, CItem.a, prep1, Nat.reduceAdd, opS_call, newS, effA, List.find?_cons, evAll, norm, CallRes.plain, rawTV, rawAV, normOk, noRefTV, noRefAV, renTV, renAV, opS_extract, effM]; (with_reducible refine hK _ ?_))
  (refine WpA_seq (WpA_sreg [⟨4, _, _, _, hS⟩] [] (by simp) fun K hK => ?_); simp (disch := omega) only [kc, slM, CItem.a, prep1, Nat.reduceAdd, opS_un, effM, evUn, stS_guard, opS_call, newS, effA, List.find?_cons, evAll, norm, CallRes.plain, rawTV, rawAV, normOk, noRefTV, noRefAV, renTV, renAV, ifT, opS_pick]; (with_reducible refine hK _ ?_))
  refine WpA_cond rfl (fun h => by simp at h) (fun _ => WpA_skip ?_)
  show WpA _ _ _ _
  (refine WpA_seq (WpA_sreg [] [] (by simp) fun K hK => ?_); simp (disch := omega) only [kc, prep1, Nat.reduceAdd, opS_len, effR, ty_slice122, ls_len, rowF_len, ofConst, Value.oneCell']; (with_reducible refine hK _ ?_))
  refine WpA_forb (G := DfG n f) (fun g => ⟨[jk, jk, .raw (.bool false), jk, jk, jk, jk, jk, jk, jk, jk, jk, jk, jk, jk, jk, jk, jk, jk, .one (.p (.sl (ls fZ (ldF n f)))), .raw (.int .i64 (n : Int)), .raw (.int .i64 (g.i : Int)), jk, jk, jk, jk, jk, jk, jk], Hm []⟩) (fun g => n - g.i) ⟨0, by omega, fun a ha => by omega⟩ ?_ ?_
  · refine Weak_sub trivial ?_
    simp [wkL, okTV, okAV]
  · rintro ⟨i, hi, ok⟩
    simp only
    by_cases hm : i < n
    · have a1 : (ldF n f)[i]? = some (detF (i + 1) f) := rowF_get _ hm
      have hz := detF_sz (n := i + 1) (f := f) (by omega) (fun a b ha hb => hf a b (by omega) (by omega))
      have c1 := sign_C (detF (i + 1) f) (hz.mono (by omega))
      (refine WpA_sreg [] [] (by simp) fun K hK => ?_; simp (disch := omega) only [kc, prep1, Hm, effM, evBin, decT]; (with_reducible refine hK _ ?_))
      refine WpA_seq (WpA_cond rfl (fun _ => WpA_skip ?_) (fun h => by simp at h <;> omega))
      refine WpA_seq (WpA_block ?_)
      (refine WpA_sreg [] [] (by simp) fun K hK => ?_; simp (disch := omega) only [kc, prep1, Nat.reduceAdd, opS_indexAddr, effR, natOf_pos, ty_slice122, ls_get, a1, fZ, ty_sz79, packT, ty_agg79, Nat.le_refl, opS_alloc, newS, effA, ty_zero79, Value.oneCell', ifT, opS_store, wrS, effD, updH, cellsOf, isPure, putCells, killTV, killAV]; (with_reducible refine hK _ ?_))
      by_cases hp : 0 < detF (i + 1) f
      · rw [sg_pos hp] at c1
        (refine WpA_sreg [⟨1, _, _, _, c1⟩] [] (by simp) fun K hK => ?_; simp (disch := omega) only [kc, tZ, decF, CItem.a, prep1, Nat.reduceAdd, effR, updH, ifF, packT, ty_sz79, ty_agg79, Nat.le_refl, opS_call, newS, effA, List.find?_cons, evAll, norm, CallRes.plain, rawTV, rawAV, normOk, isPure, noRefTV, noRefAV, renTV, renAV, effM, ofConst, Value.oneCell', evBin, Int.reduceLE, decide_false]; (with_reducible refine hK _ ?_))
        refine WpA_cond rfl (fun h => by simp at h) (fun _ => WpA_skip ?_)
        show WpA _ _ _ _
        ((refine WpA_lreg [] [] (by simp) fun K hK => ?_); simp (disch := omega) only [kc, prep1, effM, ofConst, Value.oneCell', evBin, wrapI]; (with_reducible refine hK _ ?_))
        refine ⟨⟨i + 1, by omega, fun a ha => ?_⟩, by simp only; omega, Weak_sub trivial ?_⟩
        · by_cases e : a = i
          · subst e; exact hp
          · exact ok a (by omega)
        · simp [wkL, okTV, okAV]
      · have hr0 : r = false := by
          cases r with
          | false => rfl
          | true => exact absurd (hr.1 rfl i hm) hp
        subst hr0
        have hle := sg_npos hp
        (refine WpA_sreg [⟨1, _, _, _, c1⟩] [] (by simp) fun K hK => ?_; simp (disch := omega) only [kc, tZ, CItem.a, prep1, Nat.reduceAdd, effR, updH, ifF, packT, ty_sz79, ty_agg79, Nat.le_refl, opS_call, newS, effA, List.find?_cons, evAll, norm, CallRes.plain, rawTV, rawAV, normOk, isPure, noRefTV, noRefAV, renTV, renAV, effM, ofConst, Value.oneCell', evBin, decT]; (with_reducible refine hK _ ?_))
        refine WpA_cond rfl (fun _ => ?_) (fun h => by simp at h <;> omega)
        (refine WpA_sreg [] [] (by simp) fun K hK => ?_; simp (disch := omega) only [kc, prep1, ofConst, Value.oneCell']; (with_reducible refine hK _ ?_))
        (refine WpA_ret ⟨.inr rfl, ret_now rfl ?_ rfl⟩; simp (disch := omega) only [resA, Tryz.results101, resOne, List.getElem?_cons_succ, List.getElem?_cons_zero])
    · have hr1 : r = true := hr.2 fun a ha => ok a (by omega)
      subst hr1
      (refine WpA_sreg [] [] (by simp) fun K hK => ?_; simp (disch := omega) only [kc, prep1, Hm, effM, evBin, decF]; (with_reducible refine hK _ ?_))
      refine WpA_seq (WpA_cond rfl (fun h => by simp at h <;> omega) (fun _ => WpA_exit ?_))
      show WpA _ _ _ _
      (refine WpA_sreg [] [] (by simp) fun K hK => ?_; simp (disch := omega) only [kc, prep1, ofConst, Value.oneCell']; (with_reducible refine hK _ ?_))
      (refine WpA_ret ⟨.inr rfl, ret_now rfl ?_ rfl⟩; simp (disch := omega) only [resA, Tryz.results101, resOne, List.getElem?_cons_succ, List.getElem?_cons_zero])
theorem cmpZ_le (a b : Int) : decide (cmpZ a b ≤ 0) = decide (a ≤ b) := by
  unfold cmpZ
  split
  · simp; omega
  · split
    · simp; omega
    · simp; omega
theorem cmpZ_ge (a b : Int) : decide (0 ≤ cmpZ a b) = decide (b ≤ a) := by
  unfold cmpZ
  split
  · simp; omega
  · split
    · simp; omega
    · simp; omega
set_option maxRecDepth 100000 in
set_option maxHeartbeats 8000000 in
theorem small8_C (n : Nat) (f : Nat → Nat → Int) (hn1 : 1 ≤ n) (hn : n ≤ 16) (hf : ∀ i j, i < n → j < n → Sz (f i j) 1024) : CallC Tryz.prog 58 [slM (mat n n f)] ⟨[], .raw (.bool (decide (detF n f ≤ 10000)))⟩ := by
  have hD := Determinant_C n f hn1 hn hf
  have hS := small_C 10000 (by omega) (by omega)
  have hC := Cmp_C (detF n f) 10000 ((detF_sz hn hf).mono (by omega)) (sz_lt (by decide) (by omega))
  have hle := cmpZ_le (detF n f) 10000
  refine callC_of Tryz.func58 rfl (by kernel_rfl) ?_; rw [Tryz.ntmps58]
  (refine WpA_sreg [] [] (by simp) fun K hK => ?_; simp (disch := omega) only [kc, prep1, slM, List.replicate, ofConst, Value.oneCell']; (with_reducible refine hK _ ?_))
  (refine WpA_sreg [⟨1, _, _, _, hD⟩, ⟨2, _, _, _, hS⟩, ⟨3, _, _, _, hC⟩] [] (by simp) fun K hK => ?_; simp (disch := omega) only [kc, slM, tZ, decF, CItem.a, prep1, Nat.reduceAdd, opS_call, newS, effA, List.find?_cons, evAll, norm, CallRes.plain, rawTV, rawAV, normOk, noRefTV, noRefAV, renTV, renAV, Nat.reduceBEq, ofConst, Value.oneCell', isPure, effM, evBin, hle]; (with_reducible refine hK _ ?_))
  (refine WpA_ret ⟨.inr rfl, ret_now rfl ?_ rfl⟩; simp (disch := omega) only [resA, Tryz.results58, resOne, List.getElem?_cons_succ, List.getElem?_cons_zero])
set_option maxRecDepth 100000 in
set_option maxHeartbeats 8000000 in
theorem Validate_C (n c : Nat) (f : Nat → Nat → Int) (hn1 : 1 ≤ n) (hn : n ≤ 16) (hc1 : 1 ≤ c) (hc : c ≤ 16) (hf : ∀ i j, i < n → j < c → Sz (f i j) 1024) :
    ∃ e : Int, (e = 0 ↔ (n = c ∧ n ≤ 8 ∧ SymF f n ∧ PosF f n)) ∧ CallC Tryz.prog 57 [slM (mat n c f)] ⟨[], .raw (.int .i64 e)⟩ := by
  have hSq := Square_C (mat n c f)
  by_cases h1 : n = c
  · subst h1
    rw [sqT_yes f hn1 hn] at hSq
    by_cases h2 : 8 < n
    · refine ⟨3, by omega, ?_⟩
      refine callC_of Tryz.func57 rfl (by kernel_rfl) ?_; rw [Tryz.ntmps57]
      (refine WpA_sreg [] [] (by simp) fun K hK => ?_; simp (disch := omega) only [kc, prep1, slM, List.replicate, ofConst, Value.oneCell']; (with_reducible refine hK _ ?_))
      (refine WpA_sreg [⟨1, _, _, _, hSq⟩] [] (by simp) fun K hK => ?_; simp (disch := omega) only [kc, slM, CItem.a, prep1, Nat.reduceAdd, opS_call, newS, effA, List.find?_cons, evAll, norm, CallRes.plain, rawTV, rawAV, normOk, noRefTV, noRefAV, renTV, renAV, opS_extract, effM]; (with_reducible refine hK _ ?_))
      refine WpA_seq (WpA_block ?_)
      (refine WpA_sreg [] [] (by simp) fun K hK => ?_; simp (disch := omega) only [kc, prep1, Nat.reduceAdd, opS_un, effM, evUn, stS_guard, ofConst, Value.oneCell', ifT, evBin, decT, opS_pick]; (with_reducible refine hK _ ?_))
      refine WpA_cond rfl (fun _ => ?_) (fun h => by simp at h <;> omega)
      (refine WpA_sreg [] [] (by simp) fun K hK => ?_; simp (disch := omega) only [kc, prep1, ofConst, Value.oneCell']; (with_reducible refine hK _ ?_))
      (refine WpA_ret ⟨.inr rfl, ret_now rfl ?_ rfl⟩; simp (disch := omega) only [resA, Tryz.results57, resOne, List.getElem?_cons_succ, List.getElem?_cons_zero])
    · by_cases h3 : SymF f n
      · have hS := Symmetric_C n f hn hf true (by simp [h3])
        by_cases h4 : PosF f n
        · have hD := Definite_C n f hn1 hn hf h3 true (by simp [h4])
          refine ⟨0, by simp [h3, h4]; omega, ?_⟩
          refine callC_of Tryz.func57 rfl (by kernel_rfl) ?_; rw [Tryz.ntmps57]
          (refine WpA_sreg [] [] (by simp) fun K hK => ?_; simp (disch := omega) only [kc, prep1, slM, List.replicate, ofConst, Value.oneCell']; (with_reducible refine hK _ ?_))
          (refine WpA_sreg [⟨1, _, _, _, hSq⟩] [] (by simp) fun K hK => ?_; simp (disch := omega) only [kc, slM, CItem.a, prep1, Nat.reduceAdd, opS_call, newS, effA, List.find?_cons, evAll, norm, CallRes.plain, rawTV, rawAV, normOk, noRefTV, noRefAV, renTV, renAV, opS_extract, effM]; (with_reducible refine hK _ ?_))
          refine WpA_seq (WpA_block ?_)
          (refine WpA_sreg [] [] (by simp) fun K hK => ?_; simp (disch := omega) only [kc, prep1, Nat.reduceAdd, opS_un, effM, evUn, stS_guard, ofConst, Value.oneCell', ifT, evBin, decF, opS_pick]; (with_reducible refine hK _ ?_))
          refine WpA_cond rfl (fun h => by simp at h <;> omega) (fun _ => ?_)
          (refine WpA_sreg [⟨1, _, _, _, hS⟩] [] (by simp) fun K hK => ?_; simp (disch := omega) only [kc, slM, CItem.a, prep1, Nat.reduceAdd, opS_call, newS, effA, List.find?_cons, evAll, norm, CallRes.plain, rawTV, rawAV, normOk, noRefTV, noRefAV, renTV, renAV, opS_un, effM, evUn]; (with_reducible refine hK _ ?_))
          refine WpA_cond rfl (fun h => by simp at h) (fun _ => ?_)
          (refine WpA_sreg [⟨1, _, _, _, hD⟩] [] (by simp) fun K hK => ?_; simp (disch := omega) only [kc, slM, CItem.a, prep1, Nat.reduceAdd, opS_call, newS, effA, List.find?_cons, evAll, norm, CallRes.plain, rawTV, rawAV, normOk, noRefTV, noRefAV, renTV, renAV, opS_un, effM, evUn]; (with_reducible refine hK _ ?_))
          refine WpA_cond rfl (fun h => by simp at h) (fun _ => WpA_skip ?_)
          show WpA _ _ _ _
          (refine WpA_sreg [] [] (by simp) fun K hK => ?_; simp (disch := omega) only [kc, prep1, ofConst, Value.oneCell']; (with_reducible refine hK _ ?_))
          (refine WpA_ret ⟨.inr rfl, ret_now rfl ?_ rfl⟩; simp (disch := omega) only [resA, Tryz.results57, resOne, List.getElem?_cons_succ, List.getElem?_cons_zero])
        · have hD := Definite_C n f hn1 hn hf h3 false (by simp [h4])
          refine ⟨5, by simp [h4], ?_⟩
          refine callC_of Tryz.func57 rfl (by kernel_rfl) ?_; rw [Tryz.ntmps57]
          (refine WpA_sreg [] [] (by simp) fun K hK => ?_; simp (disch := omega) only [kc, prep1, slM, List.replicate, ofConst, Value.oneCell']; (with_reducible refine hK _ ?_))
          (refine WpA_sreg [⟨1, _, _, _, hSq⟩] [] (by simp) fun K hK => ?_; simp (disch := omega) only [kc, slM, CItem.a, prep1, Nat.reduceAdd, opS_call, newS, effA, List.find?_cons, evAll, norm, CallRes.plain, rawTV, rawAV, normOk, noRefTV, noRefAV, renTV, renAV, opS_extract, effM]; (with_reducible refine hK _ ?_))
          refine WpA_seq (WpA_block ?_)
          (refine WpA_sreg [] [] (by simp) fun K hK => ?_; simp (disch := omega) only [kc, prep1, Nat.reduceAdd, opS_un, effM, evUn, stS_guard, ofConst, Value.oneCell', ifT, evBin, decF, opS_pick]; (with_reducible refine hK _ ?_))
          refine WpA_cond rfl (fun h => by simp at h <;> omega) (fun _ => ?_)
          (refine WpA_sreg [⟨1, _, _, _, hS⟩] [] (by simp) fun K hK => ?_; simp (disch := omega) only [kc, slM, CItem.a, prep1, Nat.reduceAdd, opS_call, newS, effA, List.find?_cons, evAll, norm, CallRes.plain, rawTV, rawAV, normOk, noRefTV, noRefAV, renTV, renAV, opS_un, effM, evUn]; (with_reducible refine hK _ ?_))
          refine WpA_cond rfl (fun h => by simp at h) (fun _ => ?_)
          (refine WpA_sreg [⟨1, _, _, _, hD⟩] [] (by simp) fun K hK => ?_; simp (disch := omega) only [kc, slM, CItem.a, prep1, Nat.reduceAdd, opS_call, newS, effA, List.find?_cons, evAll, norm, CallRes.plain, rawTV, rawAV, normOk, noRefTV, noRefAV, renTV, renAV, opS_un, effM, evUn, Bool.not_false]; (with_reducible refine hK _ ?_))
          refine WpA_cond rfl (fun _ => ?_) (fun h => by simp at h)
          (refine WpA_sreg [] [] (by simp) fun K hK => ?_; simp (disch := omega) only [kc, prep1, ofConst, Value.oneCell']; (with_reducible refine hK _ ?_))
          (refine WpA_ret ⟨.inr rfl, ret_now rfl ?_ rfl⟩; simp (disch := omega) only [resA, Tryz.results57, resOne, List.getElem?_cons_succ, List.getElem?_cons_zero])
      · have hS := Symmetric_C n f hn hf false (by simp [h3])
        refine ⟨4, by simp [h3], ?_⟩
        refine callC_of Tryz.func57 rfl (by kernel_rfl) ?_; rw [Tryz.ntmps57]
        (refine WpA_sreg [] [] (by simp) fun K hK => ?_; simp (disch := omega) only [kc, prep1, slM, List.replicate, ofConst, Value.oneCell']; (with_reducible refine hK _ ?_))
        (refine WpA_sreg [⟨1, _, _, _, hSq⟩] [] (by simp) fun K hK => ?_; simp (disch := omega) only [kc, slM, CItem.a, prep1, Nat.reduceAdd, opS_call, newS, effA, List.find?_cons, evAll, norm, CallRes.plain, rawTV, rawAV, normOk, noRefTV, noRefAV, renTV, renAV, opS_extract, effM]; (with_reducible refine hK _ ?_))
        refine WpA_seq (WpA_block ?_)
        (refine WpA_sreg [] [] (by simp) fun K hK => ?_; simp (disch := omega) only [kc, prep1, Nat.reduceAdd, opS_un, effM, evUn, stS_guard, ofConst, Value.oneCell', ifT, evBin, decF, opS_pick]; (with_reducible refine hK _ ?_))
        refine WpA_cond rfl (fun h => by simp at h <;> omega) (fun _ => ?_)
        (refine WpA_sreg [⟨1, _, _, _, hS⟩] [] (by simp) fun K hK => ?_; simp (disch := omega) only [kc, slM, CItem.a, prep1, Nat.reduceAdd, opS_call, newS, effA, List.find?_cons, evAll, norm, CallRes.plain, rawTV, rawAV, normOk, noRefTV, noRefAV, renTV, renAV, opS_un, effM, evUn, Bool.not_false]; (with_reducible refine hK _ ?_))
        refine WpA_cond rfl (fun _ => ?_) (fun h => by simp at h)
        (refine WpA_sreg [] [] (by simp) fun K hK => ?_; simp (disch := omega) only [kc, prep1, ofConst, Value.oneCell']; (with_reducible refine hK _ ?_))
        (refine WpA_ret ⟨.inr rfl, ret_now rfl ?_ rfl⟩; simp (disch := omega) only [resA, Tryz.results57, resOne, List.getElem?_cons_succ, List.getElem?_cons_zero])
  · rw [sqT_no f hn1 h1] at hSq
    refine ⟨3, by simp [h1], ?_⟩
    refine callC_of Tryz.func57 rfl (by kernel_rfl) ?_; rw [Tryz.ntmps57]
    (refine WpA_sreg [] [] (by simp) fun K hK => ?_; simp (disch := omega) only [kc, prep1, slM, List.replicate, ofConst, Value.oneCell']; (with_reducible refine hK _ ?_))
    (refine WpA_sreg [⟨1, _, _, _, hSq⟩] [] (by simp) fun K hK => ?_; simp (disch := omega) only [kc, slM, CItem.a, prep1, Nat.reduceAdd, opS_call, newS, effA, List.find?_cons, evAll, norm, CallRes.plain, rawTV, rawAV, normOk, noRefTV, noRefAV, renTV, renAV, opS_extract, effM]; (with_reducible refine hK _ ?_))
    refine WpA_seq (WpA_block ?_)
    (refine WpA_sreg [] [] (by simp) fun K hK => ?_; simp (disch := omega) only [kc, prep1, Nat.reduceAdd, opS_un, effM, evUn, Bool.not_false, stS_guard, reduceCtorEq, ofConst, Value.oneCell', Option.map_none, opS_pick]; (with_reducible refine hK _ ?_))
    refine WpA_cond rfl (fun _ => ?_) (fun h => by simp at h)
    (refine WpA_sreg [] [] (by simp) fun K hK => ?_; simp (disch := omega) only [kc, prep1, ofConst, Value.oneCell']; (with_reducible refine hK _ ?_))
    (refine WpA_ret ⟨.inr rfl, ret_now rfl ?_ rfl⟩; simp (disch := omega) only [resA, Tryz.results57, resOne, List.getElem?_cons_succ, List.getElem?_cons_zero])
end Go.Proofs.YtobnpabndpmabaaGreat
