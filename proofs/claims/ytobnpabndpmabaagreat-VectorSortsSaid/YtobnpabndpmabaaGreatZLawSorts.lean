/-
  Proved: the statement VectorSortsSaid: for every input the law quadformlaw09.VectorSorts returns true, and each argument reads afterwards as it read before. No condition.
-/
import Derived.Test.YtobnpabndpmabaaGreatP16
set_option linter.all false
namespace Go.Proofs.YtobnpabndpmabaaGreat
open Go.RowKit
theorem newM_rep {k : Nat} {X : Nat → Prop} {w : World} {A : Option Addr} {M : List (List Int)} (h : NewM k w A M) (hX : ∀ b, X b → b < k) : Rep X w (.sl (ls (fR fI) M)) (.slice A M.length M.length) := by
  obtain ⟨hm, b, rfl, hk, hb, hc⟩ := h
  have := Rep.sl (X := X) (w := w) b 0 1 M.length (ls (fR fI) M) (fun i _ => (w.cell? ⟨b, i, none⟩).getD undef) (fun h => absurd (hX _ h) (by omega)) hb (fun e he => by
    obtain ⟨z, _, rfl⟩ := List.mem_map.1 he
    rfl) (by rw [ls_len]; exact Nat.le_refl _) (by rw [ls_len]; omega) (fun i e j x he hx => by
    rw [ls_get] at he
    obtain ⟨r, hr, rfl⟩ := Option.map_eq_some_iff.1 he
    cases j with
    | succ j => simp [fR] at hx
    | zero =>
      obtain ⟨A', c, h1, _⟩ := hc i r hr
      simp only [Nat.mul_one, Nat.add_zero, Nat.zero_add, h1, Option.getD_some]) (fun i e j x he hx => by
    rw [ls_get] at he
    obtain ⟨r, hr, rfl⟩ := Option.map_eq_some_iff.1 he
    cases j with
    | succ j => simp [fR] at hx
    | zero =>
      simp [fR] at hx
      subst hx
      obtain ⟨A', c, h1, h2, h3, h4, h5⟩ := hc i r hr
      simp only [h1, Option.getD_some]
      cases r with
      | nil => exact Rep.nil _ _
      | cons z0 r0 =>
        obtain ⟨b', off', rfl, h6⟩ := h4 (by simp)
        obtain ⟨h7, h8⟩ := h5 _ rfl
        exact rdI_repX (fun h => absurd (hX _ h) (by simp at h7; omega)) h8 h2 h3 h4)
  rw [ls_len] at this
  exact this
theorem rel_gr {ρ : Rho} {H : OH} {X : Nat → Prop} {w : World} {G : List (List Int)} {v : Value} (b : Bool) (h : Rep X w (.sl (ls (fR fI) G)) v) : (grT G b).rel ρ H X w (.tuple #[v, .bool b]) := by
  refine ⟨#[v, .bool b], rfl, rfl, fun j c cs hj => ?_⟩
  match j, hj with
  | 0, hj =>
    simp at hj
    obtain ⟨rfl, rfl⟩ := hj
    exact ⟨_, rfl, .inr ⟨rfl, _, rfl, h⟩⟩
  | 1, hj =>
    simp at hj
    obtain ⟨rfl, rfl⟩ := hj
    exact ⟨_, rfl, .inr ⟨rfl, _, rfl, Rep.raw _ rfl⟩⟩
  | j + 2, hj => simp at hj
def suO (M l : List (List Int)) : Option (List (Int × List Int)) := if isReducedM M then itemsO M l else none
def suL (M l : List (List Int)) : List (List Int) := match suO M l with | none => [] | some ks => (uniqP ks).map Prod.snd
def suB (M l : List (List Int)) : Bool := (suO M l).isSome
theorem suT_none {M l : List (List Int)} (h : suO M l = none) : grT (suL M l) (suB M l) = grT [] false := by simp [suL, suB, h]
theorem suT_some {M l : List (List Int)} {ks : List (Int × List Int)} (h : suO M l = some ks) : grT (suL M l) (suB M l) = grT ((uniqP ks).map Prod.snd) true := by simp [suL, suB, h]
theorem pSort_C (M l : List (List Int)) (hl : l.length ≤ 65536) : CallC Tryz.prog 11 [slI M, slI l] ⟨[], grT (suL M l) (suB M l)⟩ := by
  refine callC_extX (by kernel_rfl) fun X w vs hX hvs ha => ?_
  obtain ⟨v0, e0, r0⟩ := arg0 ha (j := 0) rfl
  obtain ⟨v1, e1, r1⟩ := arg0 ha (j := 1) rfl
  obtain ⟨A, c, rfl, hc, hm, hR⟩ := rep_rdM r0
  obtain ⟨B, d, rfl, hd, hlx, hB⟩ := rep_rdM r1
  obtain rfl : vs = #[.slice A M.length c, .slice B l.length d] := by
    apply Array.ext_getElem?
    intro j
    match j with
    | 0 => exact e0
    | 1 => exact e1
    | j + 2 => rw [Array.getElem?_eq_none (by simp at hvs; omega)]; rfl
  refine (sortUnique_new A B c d M l w hR hB hm hc hl).mono fun e w' ⟨h1, h2⟩ => ?_
  change SUX _ _ (suO M l) _ at h1
  cases hs : suO M l with
  | none =>
    rw [hs] at h1
    rw [suT_none hs]
    exact ⟨_, h1, fun _ _ _ _ => rel_gr _ (Rep.nil _ _), h2⟩
  | some ks =>
    rw [hs] at h1
    rw [suT_some hs]
    obtain ⟨A', h3, h4⟩ := h1
    exact ⟨_, h3, fun _ _ _ hY => rel_gr _ (newM_rep h4 hY), h2⟩
theorem rCompare_C (x y : List Int) : CallC Tryz.prog 16 [sl1 x, sl1 y] ⟨[], .raw (.int .i64 (cmpL x y))⟩ := by
  refine callC_ext (by kernel_rfl) fun X w vs hX hvs ha => ?_
  obtain ⟨v0, e0, r0⟩ := arg0 ha (j := 0) rfl
  obtain ⟨v1, e1, r1⟩ := arg0 ha (j := 1) rfl
  obtain ⟨A, c, rfl, hc, hl, hA⟩ := rep_rdI r0
  obtain ⟨B, d, rfl, hd, hlb, hB⟩ := rep_rdI r1
  obtain rfl : vs = #[.slice A x.length c, .slice B y.length d] := by
    apply Array.ext_getElem?
    intro j
    match j with
    | 0 => exact e0
    | 1 => exact e1
    | j + 2 => rw [Array.getElem?_eq_none (by simp at hvs; omega)]; rfl
  refine (refCompare_any A B c d x y w hA hB hl hlb).mono fun e w' ⟨h1, h2⟩ => ?_
  obtain ⟨n, rfl⟩ := h2
  exact ⟨_, h1, fun _ _ _ => Rep.raw _ rfl, (Ext.refl _).drewN n⟩
/-! Insertion. -/
def plc (x : Int × List Int) : List (Int × List Int) → Nat
  | [] => 0
  | a :: l => if ltP a x then plc x l + 1 else 0
theorem plc_le (x : Int × List Int) : ∀ l, plc x l ≤ l.length
  | [] => Nat.le_refl _
  | a :: l => by unfold plc; have := plc_le x l; split <;> simp <;> omega
theorem plc_lt (x : Int × List Int) : ∀ (l : List (Int × List Int)) (i : Nat) a, l[i]? = some a → i < plc x l → ltP a x
  | [], i, a, h, _ => by simp at h
  | b :: l, i, a, h, hi => by
    unfold plc at hi
    split at hi
    · cases i with
      | zero => simp at h; subst h; assumption
      | succ i => exact plc_lt x l i a (by simpa using h) (by omega)
    · omega
theorem plc_at (x : Int × List Int) : ∀ (l : List (Int × List Int)) a, l[plc x l]? = some a → ¬ ltP a x
  | [], a, h => by simp at h
  | b :: l, a, h => by
    unfold plc at h
    split at h
    · exact plc_at x l a (by simpa using h)
    · simp at h; subst h; assumption
theorem putP_plc (x : Int × List Int) : ∀ l : List (Int × List Int), putP x l = match l[plc x l]? with
    | some a => if ltP x a then l.take (plc x l) ++ x :: l.drop (plc x l) else l
    | none => l.take (plc x l) ++ x :: l.drop (plc x l)
  | [] => rfl
  | a :: l => by
    unfold putP plc
    split
    · rw [putP_plc x l]
      simp only [List.getElem?_cons_succ]
      cases l[plc x l]? with
      | none => rfl
      | some b => simp only; split <;> rfl
    · simp only [List.getElem?_cons_zero]
      split <;> rfl
theorem putP_len (x : Int × List Int) (l : List (Int × List Int)) : (putP x l).length ≤ l.length + 1 := by
  rw [putP_plc]
  have h1 : (l.take (plc x l) ++ x :: l.drop (plc x l)).length = l.length + 1 := by
    have := plc_le x l
    simp; omega
  split
  · split
    · omega
    · omega
  · omega
end Go.Proofs.YtobnpabndpmabaaGreat
namespace Go.Proofs.YtobnpabndpmabaaGreat
open Go.RowKit
def sgnK (x : List Int) : Int := match x.find? (fun c => c != 0) with | none => 0 | some c => if c < 0 then -1 else 1
theorem sgnK_snoc (x : List Int) (a : Int) : sgnK (x ++ [a]) = if sgnK x = 0 ∧ a ≠ 0 then (if a < 0 then -1 else 1) else sgnK x := by
  unfold sgnK
  rw [List.find?_append]
  cases h : x.find? (fun c => c != 0) with
  | none =>
    by_cases ha : a = 0
    · simp [ha]
    · simp [ha]
  | some c =>
    simp
    split <;> simp
theorem sgnK_cases (x : List Int) : sgnK x = 0 ∨ sgnK x = 1 ∨ sgnK x = -1 := by
  unfold sgnK
  split
  · simp
  · split <;> simp
theorem take_snoc_ {x : List Int} {k : Nat} {a : Int} (h : x[k]? = some a) : x.take (k + 1) = x.take k ++ [a] := by
  obtain ⟨h1, rfl⟩ := List.getElem?_eq_some_iff.1 h
  rw [List.take_succ_eq_append_getElem h1]
theorem canonS_sgn {x : List Int} (h : InB x = true) : canonS x = if sgnK x = 0 then none else some (x.map fun a => sgnK x * a) := by
  unfold canonS sgnK
  rw [h]
  cases hf : x.find? (fun c => c != 0) with
  | none => simp
  | some c =>
    simp only [if_true]
    by_cases hc : c < 0
    · simp [hc]
    · simp [hc]
def cnL (x : List Int) : List Int := x.map fun a => sgnK x * a
theorem sgnK_zero {x : List Int} : sgnK x = 0 ↔ ∀ c ∈ x, c = 0 := by
  unfold sgnK
  split
  · rename_i h
    rw [List.find?_eq_none] at h
    exact ⟨fun _ c hc => by simpa using h c hc, fun _ => rfl⟩
  · rename_i c h
    have h1 := List.find?_some h
    have h2 := List.mem_of_find?_eq_some h
    constructor
    · intro hh; split at hh <;> cases hh
    · intro hh; have := hh c h2; simp [this] at h1
theorem sgnK_map {x : List Int} {s : Int} (hs : s = 1 ∨ s = -1) : sgnK (x.map fun a => s * a) = s * sgnK x := by
  unfold sgnK
  rw [List.find?_map]
  have e : ((fun c : Int => c != 0) ∘ fun a => s * a) = fun c : Int => c != 0 := by
    funext c
    simp only [Function.comp]
    rw [Bool.eq_iff_iff]
    simp only [bne_iff_ne, ne_eq]
    rcases hs with rfl | rfl <;> omega
  rw [e]
  cases h : x.find? (fun c => c != 0) with
  | none => simp
  | some c =>
    have h1 := List.find?_some h
    simp only [Option.map_some]
    have hc : c ≠ 0 := by simpa using h1
    rcases hs with rfl | rfl
    · simp
    · by_cases h0 : c < 0
      · rw [if_neg (by omega), if_pos h0]; rfl
      · rw [if_pos (by omega), if_neg h0]; rfl
theorem cnL_map {x : List Int} {s : Int} (hs : s = 1 ∨ s = -1) : cnL (x.map fun a => s * a) = cnL x := by
  unfold cnL
  rw [sgnK_map hs, List.map_map]
  refine List.map_congr_left fun a _ => ?_
  show s * sgnK x * (s * a) = _
  rcases hs with rfl | rfl <;> grind
theorem cnL_cnL {x : List Int} (h : sgnK x ≠ 0) : cnL (cnL x) = cnL x := by
  rcases sgnK_cases x with h1 | h1 | h1
  · exact absurd h1 h
  · exact cnL_map (.inl h1)
  · exact cnL_map (.inr h1)
theorem InB_map {x : List Int} {s : Int} (hs : s = 1 ∨ s = -1) (h : InB x = true) : InB (x.map fun a => s * a) = true := by
  unfold InB at *
  simp only [List.all_eq_true, Bool.and_eq_true, decide_eq_true_eq, List.mem_map] at *
  rintro _ ⟨c, hc, rfl⟩
  have := h c hc
  rcases hs with rfl | rfl <;> omega
end Go.Proofs.YtobnpabndpmabaaGreat
namespace Go.Proofs.YtobnpabndpmabaaGreat
open Go.RowKit
def fIt (a : Int × List Int) : List PV := [.raw (.int .i64 a.1), .sl (ls fI a.2)]
theorem fIt_len (a : Int × List Int) : (fIt a).length = 2 := rfl
abbrev slT (l : List (Int × List Int)) : TV := .one (.p (.sl (ls fIt l)))
abbrev tIt (k : Int) (x : List Int) : TV := .agg [.p (.raw (.int .i64 k)), .p (.sl (ls fI x))]
theorem lcT_snoc (l : List (Int × List Int)) (k : Int) (x : List Int) : lc fIt l ++ [[AV.p (.raw (.int .i64 k)), .p (.sl (ls fI x))]] = lc fIt (l ++ [(k, x)]) := by simp [lc, fIt]
abbrev csT (x : List Int) (b : Bool) : TV := .tup [(false, [.p (.sl (ls fI x))]), (false, [.p (.raw (.bool b))])]
set_option maxRecDepth 100000 in
set_option maxHeartbeats 8000000 in
theorem Less_C (k : Int) (x : List Int) (k' : Int) (y : List Int) : CallC Tryz.prog 78 [tIt k x, tIt k' y] ⟨[], .raw (.bool (decide (ltP (k, x) (k', y))))⟩ := by
  have cC := rCompare_C x y
  by_cases h1 : k < k'
  · rw [decide_eq_true (show ltP (k, x) (k', y) from .inl h1)]
    refine callC_of Tryz.func78 rfl (by kernel_rfl) ?_; rw [Tryz.ntmps78]
    (refine WpA_sreg [] [] (by simp) fun K hK => ?_; simp (disch := omega) only [kc, prep1, Nat.reduceAdd, tIt, List.replicate, opS_box, newS, effA, cellsOf, isPure, ifT, updH, Nat.reduceEqDiff, ofConst, Value.oneCell']; (with_reducible refine hK _ ?_))
    (refine WpA_sreg [] [] (by simp) fun K hK => ?_; simp (disch := omega) only [kc, prep1, Nat.reduceAdd, opS_fieldAddr, effR, ty_fld71_0, ty_sz2, Nat.add_zero, updH, Nat.reduceEqDiff, packT, ty_agg2, effM, evBin, decT, stS_guard, reduceCtorEq, Option.map_none, opS_pick, ofConst, Value.oneCell']; (with_reducible refine hK _ ?_))
    (refine WpA_ret ⟨.inr rfl, ret_now rfl ?_ rfl⟩; simp (disch := omega) only [resA, Tryz.results78, resOne, List.getElem?_cons_succ, List.getElem?_cons_zero])
  by_cases h2 : k = k'
  · rw [show decide (ltP (k, x) (k', y)) = decide (cmpL x y < 0) by
      unfold ltP
      simp [h2]]
    generalize cmpL x y = c at *
    refine callC_of Tryz.func78 rfl (by kernel_rfl) ?_; rw [Tryz.ntmps78]
    (refine WpA_sreg [] [] (by simp) fun K hK => ?_; simp (disch := omega) only [kc, prep1, Nat.reduceAdd, tIt, List.replicate, opS_box, newS, effA, cellsOf, isPure, ifT, updH, Nat.reduceEqDiff, ofConst, Value.oneCell']; (with_reducible refine hK _ ?_))
    (refine WpA_sreg [⟨16, _, _, _, cC⟩] [] (by simp) fun K hK => ?_; simp (disch := omega) only [kc, sl1, CItem.a, prep1, Nat.reduceAdd, opS_fieldAddr, effR, ty_fld71_0, ty_sz2, Nat.add_zero, updH, Nat.reduceEqDiff, packT, ty_agg2, effM, evBin, decF, stS_guard, ifT, decT, ty_fld71_1, ty_sz29, ty_agg29, opS_call, newS, effA, List.find?_cons, evAll, norm, CallRes.plain, rawTV, rawAV, normOk, noRefTV, noRefAV, renTV, renAV, ofConst, Value.oneCell', opS_pick]; (with_reducible refine hK _ ?_))
    (refine WpA_ret ⟨.inr rfl, ret_now rfl ?_ rfl⟩; simp (disch := omega) only [resA, Tryz.results78, resOne, List.getElem?_cons_succ, List.getElem?_cons_zero])
  · rw [decide_eq_false (show ¬ ltP (k, x) (k', y) by unfold ltP; simp [h1, h2])]
    refine callC_of Tryz.func78 rfl (by kernel_rfl) ?_; rw [Tryz.ntmps78]
    (refine WpA_sreg [] [] (by simp) fun K hK => ?_; simp (disch := omega) only [kc, prep1, Nat.reduceAdd, tIt, List.replicate, opS_box, newS, effA, cellsOf, isPure, ifT, updH, Nat.reduceEqDiff, ofConst, Value.oneCell']; (with_reducible refine hK _ ?_))
    (refine WpA_sreg [] [] (by simp) fun K hK => ?_; simp (disch := omega) only [kc, prep1, Nat.reduceAdd, opS_fieldAddr, effR, ty_fld71_0, ty_sz2, Nat.add_zero, updH, Nat.reduceEqDiff, packT, ty_agg2, effM, evBin, decF, stS_guard, ifT, ty_fld71_1, ty_sz29, Option.map_none, opS_call, newS, effA, List.find?_nil, evAll, ofConst, Value.oneCell', opS_pick]; (with_reducible refine hK _ ?_))
    (refine WpA_ret ⟨.inr rfl, ret_now rfl ?_ rfl⟩; simp (disch := omega) only [resA, Tryz.results78, resOne, List.getElem?_cons_succ, List.getElem?_cons_zero])
set_option maxRecDepth 100000 in
set_option maxHeartbeats 8000000 in
theorem Put_C (l : List (Int × List Int)) (k : Int) (x : List Int) (hl : l.length ≤ 1000000) : CallC Tryz.prog 39 [slT l, tIt k x] ⟨[], slT (putP (k, x) l)⟩ := by
  have hle := plc_le (k, x) l
  have hlt := plc_lt (k, x) l
  have hat := plc_at (k, x) l
  have hput := putP_plc (k, x) l
  obtain ⟨p, hp⟩ : ∃ p, p = plc (k, x) l := ⟨_, rfl⟩
  rw [← hp] at hle hlt hat hput
  clear hp
  refine callC_of Tryz.func39 rfl (by kernel_rfl) ?_; rw [Tryz.ntmps39]
  (refine WpA_sreg [] [] (by simp) fun K hK => ?_; simp (disch := omega) only [kc, prep1, slT, tIt, Nat.reduceAdd, List.replicate, opS_box, newS, effA, cellsOf, isPure, ifT, ofConst, Value.oneCell']; (with_reducible refine hK _ ?_))
  (refine WpA_sreg [] [] (by simp) fun K hK => ?_; simp (disch := omega) only [kc, prep1, ofConst, Value.oneCell']; (with_reducible refine hK _ ?_))
  refine WpA_seq (WpA_forb (G := FiG p) (fun g => ⟨[slT l, jk, jk, .one (.ptr 3 0 0 0), jk, .raw (.int .i64 (g.i : Int)), jk, jk, jk, jk, jk, jk, jk, jk, jk, jk, jk, jk, jk, jk, jk, jk, jk, jk, jk, jk, jk, jk, jk, jk, jk, jk, jk, jk, jk, jk, jk, jk, jk, jk, jk, jk, jk, jk, jk, jk, jk, jk], Hm [(3, [⟨71, 2, [[.p (.raw (.int .i64 k)), .p (.sl (ls fI x))]]⟩])]⟩) (fun g => p - g.i) ⟨0, by omega⟩ ?_ ?_)
  · refine Weak_sub ⟨rfl, trivial⟩ ?_
    simp [wkL, okTV, okAV]
  · rintro ⟨i, hi⟩
    simp only
    by_cases hm : i < p
    · obtain ⟨a, ha⟩ := getElem?_of_lt (show i < l.length by omega)
      have hltp := hlt i a ha hm
      obtain ⟨ka, xa⟩ := a
      have cL := Less_C ka xa k x
      rw [decide_eq_true hltp] at cL
      (refine WpA_seq (WpA_sdraw mixedA [⟨10, _, _, _, cL⟩] [] (by kernel_rfl) (by simp) fun K hK => ?_); simp (disch := omega) only [kc, tIt, CItem.a, prep1, Nat.reduceAdd, slT, Hm, opS_len, effR, ty_slice68, ls_len, effM, evBin, decT, stS_guard, opS_indexAddr, natOf_pos, ls_get, ha, fIt, ty_sz71, ifT, packT, ty_agg71, Nat.le_refl, opS_call, newS, effA, List.find?_cons, evAll, norm, CallRes.plain, rawTV, rawAV, normOk, isPure, noRefTV, noRefAV, renTV, renAV, opS_pick]; (with_reducible refine hK _ ?_))
      refine WpA_cond rfl (fun _ => WpA_skip ?_) (fun h => by simp at h)
      refine WpA_block ?_
      ((refine WpA_lreg [] [] (by simp) fun K hK => ?_); simp (disch := omega) only [kc, prep1, Nat.reduceAdd, effM, ofConst, Value.oneCell', evBin, wrapI]; (with_reducible refine hK _ ?_))
      refine ⟨⟨i + 1, by omega⟩, by simp only; omega, Weak_sub ⟨rfl, trivial⟩ ?_⟩
      simp [wkL, okTV, okAV]
    · have hip : i = p := by omega
      subst hip
      by_cases hpl : i < l.length
      · obtain ⟨a, ha⟩ := getElem?_of_lt hpl
        have hnl := hat a ha
        obtain ⟨ka, xa⟩ := a
        have cL := Less_C ka xa k x
        rw [decide_eq_false hnl] at cL
        have cM := Less_C k x ka xa
        rw [ha] at hput
        simp only at hput
        (refine WpA_seq (WpA_sdraw mixedA [⟨10, _, _, _, cL⟩] [] (by kernel_rfl) (by simp) fun K hK => ?_); simp (disch := omega) only [kc, tIt, CItem.a, prep1, Nat.reduceAdd, slT, Hm, opS_len, effR, ty_slice68, ls_len, effM, evBin, decT, stS_guard, opS_indexAddr, natOf_pos, ls_get, ha, fIt, ty_sz71, ifT, packT, ty_agg71, Nat.le_refl, opS_call, newS, effA, List.find?_cons, evAll, norm, CallRes.plain, rawTV, rawAV, normOk, isPure, noRefTV, noRefAV, renTV, renAV, opS_pick]; (with_reducible refine hK _ ?_))
        refine WpA_cond rfl (fun h => by simp at h) (fun _ => WpA_exit ?_)
        show WpA _ _ _ _
        by_cases hxl : ltP (k, x) (ka, xa)
        · rw [decide_eq_true hxl] at cM
          rw [if_pos hxl] at hput
          rw [hput]
          (refine WpA_seq (WpA_sdraw mixedA [⟨10, _, _, _, cM⟩] [] (by kernel_rfl) (by simp) fun K hK => ?_); simp (disch := omega) only [kc, tIt, CItem.a, prep1, Nat.reduceAdd, opS_len, effR, ty_slice68, ls_len, effM, evBin, decT, stS_guard, ifT, packT, ty_sz71, ty_agg71, Nat.le_refl, opS_indexAddr, natOf_pos, ls_get, ha, fIt, opS_call, newS, effA, List.find?_cons, evAll, norm, CallRes.plain, rawTV, rawAV, normOk, isPure, noRefTV, noRefAV, renTV, renAV, opS_un, evUn, opS_pick]; (with_reducible refine hK _ ?_))
          refine WpA_cond rfl (fun h => by simp at h) (fun _ => WpA_skip ?_)
          show WpA _ _ _ _
          have e1 : (l.take i).length = i := by rw [List.length_take]; omega
          have e2 : (l.take i ++ [(k, x)]).length = i + 1 := by rw [List.length_append, e1]; rfl
          have e3 : (l.drop i).length = l.length - i := List.length_drop
          (refine WpA_sreg [] [] (by simp) fun K hK => ?_; simp (disch := omega) only [kc, prep1, Nat.reduceAdd, opS_slice, effR, ty_slice68, bound, natOf_pos, ty_sz71, Nat.zero_le, ls_len, ls_all fIt_len, and_true, ls_take, ifT, opS_append, appS, effD, ofConst, Value.oneCell', newsOf, ls_own, newS, effA, ty_zero71, ty_by71, lc_len, e1, lc_all fIt_len, Nat.reduceEqDiff]; (with_reducible refine hK _ ?_))
          (refine WpA_sreg [] [] (by simp) fun K hK => ?_; simp (disch := omega) only [kc, prep1, Nat.reduceAdd, effR, updH, Nat.reduceEqDiff, packT, ty_sz71, ty_agg71, Nat.le_refl, opS_buildSlice, newS, effA, ty_slice68, ty_zero71, litA, cellsOf, isPure, Nat.reduceMul, Nat.reduceLeDiff, List.contains_nil, unP, ifT, opS_append, appS, effD, newsOf, ty_by71, lc_allp, lc_len, e1, allcons, allnil, and_true, killO, lc_kill, lcT_snoc, wrS, killTV, killAV, Nat.reduceBEq]; (with_reducible refine hK _ ?_))
          (refine WpA_sreg [] [] (by simp) fun K hK => ?_; simp (disch := omega) only [kc, prep1, Nat.reduceAdd, opS_slice, effR, ty_slice68, bound, natOf_pos, ls_len, ty_sz71, Nat.le_refl, ls_all fIt_len, and_true, ls_take, List.take_length, ls_drop, ifT, opS_append, appS, effD, newsOf, ls_own, updH, Nat.reduceEqDiff, ifF, ty_zero71, ty_by71, lc_allp, lc_len, e2, e3, lc_all fIt_len, killO, lc_kill, lc_app, wrS, killTV, killAV, Nat.reduceBEq]; (with_reducible refine hK _ ?_))
          refine WpA_ret ⟨.inr rfl, ret_fz 38 (fzOk_one rfl) ?_ rfl⟩
          simp (disch := omega) only [kc, resA, Tryz.results39, resOne, List.append_assoc, fzTV, fzAV, Nat.reduceEqDiff, updH, ifT, lc_take, lc_cellF, slT]
          rw [List.take_of_length_le (by rw [List.length_append, List.length_cons]; omega)]
        · rw [decide_eq_false hxl] at cM
          rw [if_neg hxl] at hput
          rw [hput]
          (refine WpA_seq (WpA_sdraw mixedA [⟨10, _, _, _, cM⟩] [] (by kernel_rfl) (by simp) fun K hK => ?_); simp (disch := omega) only [kc, tIt, CItem.a, prep1, Nat.reduceAdd, opS_len, effR, ty_slice68, ls_len, effM, evBin, decT, stS_guard, ifT, packT, ty_sz71, ty_agg71, Nat.le_refl, opS_indexAddr, natOf_pos, ls_get, ha, fIt, opS_call, newS, effA, List.find?_cons, evAll, norm, CallRes.plain, rawTV, rawAV, normOk, isPure, noRefTV, noRefAV, renTV, renAV, opS_un, evUn, Bool.not_false, opS_pick]; (with_reducible refine hK _ ?_))
          refine WpA_cond rfl (fun _ => ?_) (fun h => by simp at h)
          (refine WpA_sreg [] [] (by simp) fun K hK => ?_; simp (disch := omega) only [kc, prep1]; (with_reducible refine hK _ ?_))
          (refine WpA_ret ⟨.inr rfl, ret_now rfl ?_ rfl⟩; simp (disch := omega) only [resA, Tryz.results39, resOne, List.getElem?_cons_succ, List.getElem?_cons_zero, slT])
      · have hpe : l.length = i := by omega
        rw [List.getElem?_eq_none (by omega)] at hput
        simp only at hput
        rw [hput]
        (refine WpA_seq (WpA_sdraw mixedA [] [] (by kernel_rfl) (by simp) fun K hK => ?_); simp (disch := omega) only [kc, prep1, Nat.reduceAdd, slT, Hm, opS_len, effR, ty_slice68, ls_len, effM, evBin, decF, stS_guard, opS_indexAddr, Option.map_none, packT, ty_sz71, ty_agg71, Nat.le_refl, opS_call, newS, effA, List.find?_nil, evAll, opS_pick, ofConst, Value.oneCell']; (with_reducible refine hK _ ?_))
        refine WpA_cond rfl (fun h => by simp at h <;> omega) (fun _ => WpA_exit ?_)
        show WpA _ _ _ _
        (refine WpA_seq (WpA_sdraw mixedA [] [] (by kernel_rfl) (by simp) fun K hK => ?_); simp (disch := omega) only [kc, prep1, Nat.reduceAdd, opS_len, effR, ty_slice68, ls_len, effM, evBin, decF, stS_guard, packT, ty_sz71, ty_agg71, Nat.le_refl, opS_indexAddr, Option.map_none, opS_call, newS, effA, List.find?_nil, evAll, opS_un, opS_pick, ofConst, Value.oneCell']; (with_reducible refine hK _ ?_))
        refine WpA_cond rfl (fun h => by simp at h <;> omega) (fun _ => WpA_skip ?_)
        show WpA _ _ _ _
        have e1 : (l.take i).length = i := by rw [List.length_take]; omega
        have e2 : (l.take i ++ [(k, x)]).length = i + 1 := by rw [List.length_append, e1]; rfl
        have e3 : (l.drop i).length = 0 := by rw [List.length_drop]; omega
        (refine WpA_sreg [] [] (by simp) fun K hK => ?_; simp (disch := omega) only [kc, prep1, Nat.reduceAdd, opS_slice, effR, ty_slice68, bound, natOf_pos, ty_sz71, Nat.zero_le, ls_len, ls_all fIt_len, and_true, ls_take, ifT, opS_append, appS, effD, ofConst, Value.oneCell', newsOf, ls_own, newS, effA, ty_zero71, ty_by71, lc_len, e1, lc_all fIt_len, Nat.reduceEqDiff]; (with_reducible refine hK _ ?_))
        (refine WpA_sreg [] [] (by simp) fun K hK => ?_; simp (disch := omega) only [kc, prep1, Nat.reduceAdd, effR, updH, Nat.reduceEqDiff, packT, ty_sz71, ty_agg71, Nat.le_refl, opS_buildSlice, newS, effA, ty_slice68, ty_zero71, litA, cellsOf, isPure, Nat.reduceMul, Nat.reduceLeDiff, List.contains_nil, unP, ifT, opS_append, appS, effD, newsOf, ty_by71, lc_allp, lc_len, e1, allcons, allnil, and_true, killO, lc_kill, lcT_snoc, wrS, killTV, killAV, Nat.reduceBEq]; (with_reducible refine hK _ ?_))
        (refine WpA_sreg [] [] (by simp) fun K hK => ?_; simp (disch := omega) only [kc, prep1, Nat.reduceAdd, opS_slice, effR, ty_slice68, bound, natOf_pos, ls_len, ty_sz71, Nat.le_refl, ls_all fIt_len, and_true, ls_take, List.take_length, ls_drop, ifT, opS_append, appS, effD, newsOf, ls_own, updH, Nat.reduceEqDiff, ifF, ty_zero71, ty_by71, lc_allp, lc_len, e2, e3, Nat.add_zero, Nat.reduceLeDiff, lc_all fIt_len, killO, lc_kill, lc_app, wrS, killTV, killAV, Nat.reduceBEq]; (with_reducible refine hK _ ?_))
        refine WpA_ret ⟨.inr rfl, ret_fz 38 (fzOk_one rfl) ?_ rfl⟩
        simp (disch := omega) only [kc, resA, Tryz.results39, resOne, List.append_assoc, fzTV, fzAV, Nat.reduceEqDiff, updH, ifT, lc_take, lc_cellF, slT]
        rw [List.take_of_length_le (by rw [List.length_append, List.length_cons]; omega)]
set_option maxRecDepth 100000 in
set_option maxHeartbeats 8000000 in
theorem Vectors_C (l : List (Int × List Int)) (hl : l.length ≤ 1000000) : CallC Tryz.prog 40 [slT l] ⟨[], slI (l.map Prod.snd)⟩ := by
  have hml : (l.map Prod.snd).length = l.length := List.length_map _
  refine callC_of Tryz.func40 rfl (by kernel_rfl) ?_; rw [Tryz.ntmps40]
  (refine WpA_sreg [] [] (by simp) fun K hK => ?_; simp (disch := omega) only [kc, prep1, slT, List.replicate, ofConst, Value.oneCell']; (with_reducible refine hK _ ?_))
  (refine WpA_sreg [] [] (by simp) fun K hK => ?_; simp (disch := omega) only [kc, prep1, ofConst, Value.oneCell']; (with_reducible refine hK _ ?_))
  (refine WpA_seq (WpA_sreg [] [] (by simp) fun K hK => ?_); simp (disch := omega) only [kc, prep1, Nat.reduceAdd, opS_len, effR, ty_slice68, ls_len, ofConst, Value.oneCell']; (with_reducible refine hK _ ?_))
  refine WpA_forb (G := FiG l.length) (fun g => ⟨[jk, jk, jk, .one (.sl 16 0 0 g.i), jk, jk, slT l, .raw (.int .i64 (l.length : Int)), .raw (.int .i64 (g.i : Int)), jk, jk, jk, jk, jk, jk, jk, jk, jk, jk], Hm [(16, [⟨29, 1, lc (fR fI) ((l.map Prod.snd).take g.i)⟩])]⟩) (fun g => l.length - g.i) ⟨0, by omega⟩ ?_ ?_
  · refine (Weak_nil (k := 3) (d := 16) 29 1 (by omega) rfl rfl).trans (Weak_sub ⟨rfl, trivial⟩ ?_)
    simp [wkL, okTV, okAV]
  · rintro ⟨i, hi⟩
    simp only
    by_cases hm : i < l.length
    · obtain ⟨a, ha⟩ := getElem?_of_lt hm
      obtain ⟨ka, xa⟩ := a
      have eL : ((l.map Prod.snd).take i).length = i := by rw [List.length_take, hml]; omega
      have eS : (l.map Prod.snd).take i ++ [xa] = (l.map Prod.snd).take (i + 1) := by
        rw [List.take_add_one, List.getElem?_map, ha]; rfl
      generalize l.map Prod.snd = V at *
      (refine WpA_sreg [] [] (by simp) fun K hK => ?_; simp (disch := omega) only [kc, prep1, slT, Hm, effM, evBin, decT]; (with_reducible refine hK _ ?_))
      refine WpA_seq (WpA_cond rfl (fun _ => WpA_skip ?_) (fun h => by simp at h <;> omega))
      refine WpA_seq (WpA_block ?_)
      (refine WpA_sreg [] [] (by simp) fun K hK => ?_; simp (disch := omega) only [kc, prep1, Nat.reduceAdd, opS_indexAddr, effR, natOf_pos, ty_slice68, ls_get, ha, fIt, ty_sz71, packT, ty_agg71, Nat.le_refl, opS_alloc, newS, effA, ty_zero71, Value.oneCell', ifT, Nat.reduceEqDiff, opS_store, wrS, effD, updH, cellsOf, isPure, putCells, killTV, killAV]; (with_reducible refine hK _ ?_))
      ((refine WpA_lreg [] [] (by simp) fun K hK => ?_); simp (disch := omega) only [kc, prep1, Nat.reduceAdd, opS_fieldAddr, effR, ty_fld71_1, ty_sz29, updH, Nat.reduceEqDiff, ifF, packT, ty_agg29, opS_buildSlice, newS, effA, ty_slice26, ty_zero29, litA, cellsOf, isPure, Nat.reduceMul, Nat.reduceLeDiff, List.contains_nil, unP, ifT, opS_append, appS, effD, newsOf, ty_by29, lc_allp, lc_len, eL, allcons, allnil, and_true, killO, lc_kill, lcIR_snoc, eS, wrS, killTV, killAV, Nat.reduceBEq]; (with_reducible refine hK _ ?_))
      show WpA _ _ _ _
      ((refine WpA_lreg [] [] (by simp) fun K hK => ?_); simp (disch := omega) only [kc, prep1, effM, ofConst, Value.oneCell', evBin, wrapI]; (with_reducible refine hK _ ?_))
      refine ⟨⟨i + 1, by omega⟩, by simp only; omega, Weak_sub ⟨rfl, trivial⟩ ?_⟩
      simp [wkL, okTV, okAV]
    · have hin : i = l.length := by omega
      subst hin
      (refine WpA_sreg [] [] (by simp) fun K hK => ?_; simp (disch := omega) only [kc, prep1, slT, Hm, effM, evBin, decF]; (with_reducible refine hK _ ?_))
      refine WpA_seq (WpA_cond rfl (fun h => by simp at h <;> omega) (fun _ => WpA_exit ?_))
      show WpA _ _ _ _
      (refine WpA_sreg [] [] (by simp) fun K hK => ?_; simp (disch := omega) only [kc, prep1]; (with_reducible refine hK _ ?_))
      refine WpA_ret ⟨.inr rfl, ret_fz 16 (fzOk_one rfl) ?_ rfl⟩
      simp (disch := omega) only [kc, resA, Tryz.results40, resOne, List.take_of_length_le, fzTV, fzAV, ifT, lc_take, lc_cellF, slI]
def cnT (x : List Int) : TV := match canonS x with | none => csT [] false | some y => csT y true
theorem cnT_in {x : List Int} (h : InB x = true) (hs : sgnK x ≠ 0) : cnT x = csT (x.map fun a => sgnK x * a) true := by
  unfold cnT; rw [canonS_sgn h, if_neg hs]
theorem cnT_zero {x : List Int} (h : InB x = true) (hs : sgnK x = 0) : cnT x = csT [] false := by
  unfold cnT; rw [canonS_sgn h, if_pos hs]
theorem cnT_out {x : List Int} (h : InB x = false) : cnT x = csT [] false := by
  unfold cnT canonS; rw [h]; rfl
set_option maxRecDepth 100000 in
set_option maxHeartbeats 8000000 in
theorem rCanon_C (x : List Int) (hl : x.length ≤ 17592186043904) : CallC Tryz.prog 38 [sl1 x] ⟨[], cnT x⟩ := by
  have cI := inside_C x
  cases hI : InB x with
  | false =>
    rw [hI] at cI
    rw [cnT_out hI]
    refine callC_of Tryz.func38 rfl (by kernel_rfl) ?_; rw [Tryz.ntmps38]
    (refine WpA_sreg [] [] (by simp) fun K hK => ?_; simp (disch := omega) only [kc, prep1, sl1, List.replicate, ofConst, Value.oneCell']; (with_reducible refine hK _ ?_))
    (refine WpA_seq (WpA_sreg [⟨1, _, _, _, cI⟩] [] (by simp) fun K hK => ?_); simp (disch := omega) only [kc, sl1, CItem.a, prep1, Nat.reduceAdd, opS_call, newS, effA, List.find?_cons, evAll, norm, CallRes.plain, rawTV, rawAV, normOk, noRefTV, noRefAV, renTV, renAV, opS_un, effM, evUn, Bool.not_false]; (with_reducible refine hK _ ?_))
    refine WpA_cond rfl (fun _ => ?_) (fun h => by simp at h)
    (refine WpA_sreg [] [] (by simp) fun K hK => ?_; simp (disch := omega) only [kc, prep1, ofConst, Value.oneCell']; (with_reducible refine hK _ ?_))
    refine WpA_ret ⟨.inr rfl, ret_zs 2 rfl rfl ?_ rfl⟩
    simp (disch := omega) only [kc, resA, Tryz.results38, resL, resOne, tvPair, csT, ls_nil]
  | true =>
    rw [hI] at cI
    have hB : ∀ i c, x[i]? = some c → -1099511627776 ≤ c ∧ c ≤ 1099511627776 := fun i c hc => InB_bounds hI hc
    refine callC_of Tryz.func38 rfl (by kernel_rfl) ?_; rw [Tryz.ntmps38]
    (refine WpA_sreg [] [] (by simp) fun K hK => ?_; simp (disch := omega) only [kc, prep1, sl1, List.replicate, ofConst, Value.oneCell']; (with_reducible refine hK _ ?_))
    (refine WpA_seq (WpA_sreg [⟨1, _, _, _, cI⟩] [] (by simp) fun K hK => ?_); simp (disch := omega) only [kc, sl1, CItem.a, prep1, Nat.reduceAdd, opS_call, newS, effA, List.find?_cons, evAll, norm, CallRes.plain, rawTV, rawAV, normOk, noRefTV, noRefAV, renTV, renAV, opS_un, effM, evUn]; (with_reducible refine hK _ ?_))
    refine WpA_cond rfl (fun h => by simp at h) (fun _ => WpA_skip ?_)
    show WpA _ _ _ _
    (refine WpA_sreg [] [] (by simp) fun K hK => ?_; simp (disch := omega) only [kc, prep1, ofConst, Value.oneCell']; (with_reducible refine hK _ ?_))
    (refine WpA_seq (WpA_sreg [] [] (by simp) fun K hK => ?_); simp (disch := omega) only [kc, prep1, Nat.reduceAdd, opS_len, effR, ty_slice29, ls_len, ofConst, Value.oneCell']; (with_reducible refine hK _ ?_))
    refine WpA_forb (G := FiG x.length) (fun g => ⟨[sl1 x, jk, jk, jk, .raw (.int .i64 (sgnK (x.take g.i))), jk, jk, jk, jk, jk, jk, jk, jk, sl1 x, .raw (.int .i64 (x.length : Int)), .raw (.int .i64 (g.i : Int)), jk, jk, jk, jk, jk, jk, jk, jk, jk, jk, jk, jk, jk, jk, jk, jk, jk, jk, jk, jk, jk, jk, jk, jk, jk, jk, jk, jk], Hm []⟩) (fun g => x.length - g.i) ⟨0, by omega⟩ ?_ ?_
    · refine Weak_sub trivial ?_
      simp [wkL, okTV, okAV, sgnK]
    · rintro ⟨i, hi⟩
      simp only
      by_cases hm : i < x.length
      · obtain ⟨c, hc⟩ := getElem?_of_lt hm
        have hsn := sgnK_snoc (x.take i) c
        rw [← take_snoc_ hc] at hsn
        generalize sgnK (x.take i) = s at *
        (refine WpA_sreg [] [] (by simp) fun K hK => ?_; simp (disch := omega) only [kc, prep1, sl1, Hm, effM, evBin, decT]; (with_reducible refine hK _ ?_))
        refine WpA_seq (WpA_cond rfl (fun _ => WpA_skip ?_) (fun h => by simp at h <;> omega))
        refine WpA_seq (WpA_block ?_)
        (refine WpA_sreg [] [] (by simp) fun K hK => ?_; simp (disch := omega) only [kc, prep1, Nat.reduceAdd, opS_indexAddr, effR, natOf_pos, ty_slice29, ls_get, hc, fI, ty_sz2, packT, ty_agg2]; (with_reducible refine hK _ ?_))
        by_cases h1 : s = 0
        · by_cases h2 : c = 0
          · rw [if_neg (by omega)] at hsn
            (refine WpA_sreg [] [] (by simp) fun K hK => ?_; simp (disch := omega) only [kc, prep1, Nat.reduceAdd, effM, ofConst, Value.oneCell', evBin, decT, stS_guard, ifT, opS_pick]; (with_reducible refine hK _ ?_))
            refine WpA_cond rfl (fun h => by simp at h <;> omega) (fun _ => WpA_skip ?_)
            show WpA _ _ _ _
            ((refine WpA_lreg [] [] (by simp) fun K hK => ?_); simp (disch := omega) only [kc, prep1, effM, ofConst, Value.oneCell', evBin, wrapI]; (with_reducible refine hK _ ?_))
            refine ⟨⟨i + 1, by omega⟩, by simp only; omega, Weak_sub trivial ?_⟩
            simp [wkL, okTV, okAV, hsn]
          · rw [if_pos ⟨h1, h2⟩] at hsn
            by_cases h3 : c < 0
            · rw [if_pos h3] at hsn
              (refine WpA_sreg [] [] (by simp) fun K hK => ?_; simp (disch := omega) only [kc, prep1, Nat.reduceAdd, effM, ofConst, Value.oneCell', evBin, decT, stS_guard, ifT, decF, Bool.not_false, opS_pick]; (with_reducible refine hK _ ?_))
              refine WpA_cond rfl (fun _ => ?_) (fun h => by simp at h <;> omega)
              (refine WpA_sreg [] [] (by simp) fun K hK => ?_; simp (disch := omega) only [kc, prep1, ofConst, Value.oneCell']; (with_reducible refine hK _ ?_))
              (refine WpA_sreg [] [] (by simp) fun K hK => ?_; simp (disch := omega) only [kc, prep1, effM, ofConst, Value.oneCell', evBin, decT]; (with_reducible refine hK _ ?_))
              refine WpA_cond rfl (fun _ => ?_) (fun h => by simp at h <;> omega)
              ((refine WpA_lreg [] [] (by simp) fun K hK => ?_); simp (disch := omega) only [kc, prep1, ofConst, Value.oneCell']; (with_reducible refine hK _ ?_))
              show WpA _ _ _ _
              ((refine WpA_lreg [] [] (by simp) fun K hK => ?_); simp (disch := omega) only [kc, prep1, effM, ofConst, Value.oneCell', evBin, wrapI]; (with_reducible refine hK _ ?_))
              refine ⟨⟨i + 1, by omega⟩, by simp only; omega, Weak_sub trivial ?_⟩
              simp [wkL, okTV, okAV, hsn]
            · rw [if_neg h3] at hsn
              (refine WpA_sreg [] [] (by simp) fun K hK => ?_; simp (disch := omega) only [kc, prep1, Nat.reduceAdd, effM, ofConst, Value.oneCell', evBin, decT, stS_guard, ifT, decF, Bool.not_false, opS_pick]; (with_reducible refine hK _ ?_))
              refine WpA_cond rfl (fun _ => ?_) (fun h => by simp at h <;> omega)
              (refine WpA_sreg [] [] (by simp) fun K hK => ?_; simp (disch := omega) only [kc, prep1, ofConst, Value.oneCell']; (with_reducible refine hK _ ?_))
              (refine WpA_sreg [] [] (by simp) fun K hK => ?_; simp (disch := omega) only [kc, prep1, effM, ofConst, Value.oneCell', evBin, decF]; (with_reducible refine hK _ ?_))
              refine WpA_cond rfl (fun h => by simp at h <;> omega) (fun _ => WpA_skip ?_)
              show WpA _ _ _ _
              ((refine WpA_lreg [] [] (by simp) fun K hK => ?_); simp (disch := omega) only [kc, prep1, effM, ofConst, Value.oneCell', evBin, wrapI]; (with_reducible refine hK _ ?_))
              refine ⟨⟨i + 1, by omega⟩, by simp only; omega, Weak_sub trivial ?_⟩
              simp [wkL, okTV, okAV, hsn]
        · rw [if_neg (by omega)] at hsn
          (refine WpA_sreg [] [] (by simp) fun K hK => ?_; simp (disch := omega) only [kc, prep1, Nat.reduceAdd, effM, ofConst, Value.oneCell', evBin, decF, stS_guard, Option.map_none, opS_pick]; (with_reducible refine hK _ ?_))
          refine WpA_cond rfl (fun h => by simp at h <;> omega) (fun _ => WpA_skip ?_)
          show WpA _ _ _ _
          ((refine WpA_lreg [] [] (by simp) fun K hK => ?_); simp (disch := omega) only [kc, prep1, effM, ofConst, Value.oneCell', evBin, wrapI]; (with_reducible refine hK _ ?_))
          refine ⟨⟨i + 1, by omega⟩, by simp only; omega, Weak_sub trivial ?_⟩
          simp [wkL, okTV, okAV, hsn]
      · have hin : i = x.length := by omega
        subst hin
        rw [List.take_length]
        have hcs := sgnK_cases x
        (refine WpA_sreg [] [] (by simp) fun K hK => ?_; simp (disch := omega) only [kc, prep1, sl1, Hm, effM, evBin, decF]; (with_reducible refine hK _ ?_))
        refine WpA_seq (WpA_cond rfl (fun h => by simp at h <;> omega) (fun _ => WpA_exit ?_))
        show WpA _ _ _ _
        by_cases hs : sgnK x = 0
        · rw [cnT_zero hI hs, hs]
          (refine WpA_seq (WpA_sreg [] [] (by simp) fun K hK => ?_); simp (disch := omega) only [kc, prep1, effM, ofConst, Value.oneCell', evBin, decT]; (with_reducible refine hK _ ?_))
          refine WpA_cond rfl (fun _ => ?_) (fun h => by simp at h)
          (refine WpA_sreg [] [] (by simp) fun K hK => ?_; simp (disch := omega) only [kc, prep1, ofConst, Value.oneCell']; (with_reducible refine hK _ ?_))
          refine WpA_ret ⟨.inr rfl, ret_zs 2 rfl rfl ?_ rfl⟩
          simp (disch := omega) only [kc, resA, Tryz.results38, resL, resOne, tvPair, csT, ls_nil]
        · rw [cnT_in hI hs]
          have hml : (x.map fun a => sgnK x * a).length = x.length := List.length_map _
          generalize sgnK x = s at *
          (refine WpA_seq (WpA_sreg [] [] (by simp) fun K hK => ?_); simp (disch := omega) only [kc, prep1, effM, ofConst, Value.oneCell', evBin, decF]; (with_reducible refine hK _ ?_))
          refine WpA_cond rfl (fun h => by simp at h <;> omega) (fun _ => WpA_skip ?_)
          show WpA _ _ _ _
          (refine WpA_sreg [] [] (by simp) fun K hK => ?_; simp (disch := omega) only [kc, prep1, ofConst, Value.oneCell']; (with_reducible refine hK _ ?_))
          (refine WpA_seq (WpA_sreg [] [] (by simp) fun K hK => ?_); simp (disch := omega) only [kc, prep1, Nat.reduceAdd, opS_len, effR, ty_slice29, ls_len, ofConst, Value.oneCell']; (with_reducible refine hK _ ?_))
          refine WpA_forb (G := FiG x.length) (fun g => ⟨[jk, jk, jk, jk, .raw (.int .i64 s), jk, jk, .one (.sl 41 0 0 g.i), jk, jk, jk, jk, jk, jk, jk, jk, jk, jk, jk, jk, jk, jk, jk, jk, jk, jk, jk, jk, jk, jk, sl1 x, .raw (.int .i64 (x.length : Int)), .raw (.int .i64 (g.i : Int)), jk, jk, jk, jk, jk, jk, jk, jk, jk, jk, jk], Hm [(41, [⟨2, 1, lc fI ((x.map fun a => s * a).take g.i)⟩])]⟩) (fun g => x.length - g.i) ⟨0, by omega⟩ ?_ ?_
          · refine (Weak_nil (k := 7) (d := 41) 2 1 (by omega) rfl rfl).trans (Weak_sub ⟨rfl, trivial⟩ ?_)
            simp [wkL, okTV, okAV]
          · rintro ⟨i, hi⟩
            simp only
            by_cases hm : i < x.length
            · obtain ⟨c, hc⟩ := getElem?_of_lt hm
              have hcb := hB i c hc
              have eL : ((x.map fun a => s * a).take i).length = i := by rw [List.length_take, hml]; omega
              have eS : (x.map fun a => s * a).take i ++ [s * c] = (x.map fun a => s * a).take (i + 1) := by
                rw [List.take_add_one, List.getElem?_map, hc]; rfl
              have hb : -9223372036854775808 ≤ s * c ∧ s * c ≤ 9223372036854775807 := by
                rcases hcs with h | h | h <;> rw [h] <;> omega
              have hw : IntKind.i64.wrap (s * c) = s * c := wrapI hb.1 hb.2
              generalize (x.map fun a => s * a) = V at *
              (refine WpA_sreg [] [] (by simp) fun K hK => ?_; simp (disch := omega) only [kc, prep1, sl1, Hm, effM, evBin, decT]; (with_reducible refine hK _ ?_))
              refine WpA_seq (WpA_cond rfl (fun _ => WpA_skip ?_) (fun h => by simp at h <;> omega))
              refine WpA_seq (WpA_block ?_)
              (refine WpA_sreg [] [] (by simp) fun K hK => ?_; simp (disch := omega) only [kc, prep1, Nat.reduceAdd, opS_indexAddr, effR, natOf_pos, ty_slice29, ls_get, hc, fI, ty_sz2, packT, ty_agg2]; (with_reducible refine hK _ ?_))
              ((refine WpA_lreg [] [] (by simp) fun K hK => ?_); simp (disch := omega) only [kc, prep1, Nat.reduceAdd, effM, evBin, hw, opS_buildSlice, newS, effA, ty_slice29, ty_zero2, ty_sz2, litA, cellsOf, isPure, Nat.reduceMul, Nat.reduceLeDiff, List.contains_nil, unP, ifT, opS_append, appS, effD, newsOf, ty_by2, lc_allp, lc_len, eL, allcons, allnil, and_true, killO, lc_kill, lcI_snoc, eS, wrS, killTV, killAV]; (with_reducible refine hK _ ?_))
              show WpA _ _ _ _
              ((refine WpA_lreg [] [] (by simp) fun K hK => ?_); simp (disch := omega) only [kc, prep1, effM, ofConst, Value.oneCell', evBin, wrapI]; (with_reducible refine hK _ ?_))
              refine ⟨⟨i + 1, by omega⟩, by simp only; omega, Weak_sub ⟨rfl, trivial⟩ ?_⟩
              simp [wkL, okTV, okAV]
            · have hin : i = x.length := by omega
              subst hin
              (refine WpA_sreg [] [] (by simp) fun K hK => ?_; simp (disch := omega) only [kc, prep1, sl1, Hm, effM, evBin, decF]; (with_reducible refine hK _ ?_))
              refine WpA_seq (WpA_cond rfl (fun h => by simp at h <;> omega) (fun _ => WpA_exit ?_))
              show WpA _ _ _ _
              (refine WpA_sreg [] [] (by simp) fun K hK => ?_; simp (disch := omega) only [kc, prep1, Nat.reduceAdd, ofConst, Value.oneCell']; (with_reducible refine hK _ ?_))
              refine WpA_ret ⟨.inr rfl, ret_fz 41 (fzOk_one rfl) ?_ rfl⟩
              simp (disch := omega) only [kc, resA, Tryz.results38, resL, resOne, List.take_of_length_le, fzTV, fzAV, ifT, lc_take, lc_cellF, tvPair, csT]
/-! SortUnique. -/
theorem itemsO_snoc {M : List (List Int)} {l : List (List Int)} {x : List Int} {ks : List (Int × List Int)} {a : Int × List Int} (h : itemsO M l = some ks) (hx : itemO M x = some a) : itemsO M (l ++ [x]) = some (ks ++ [a]) := by
  induction l generalizing ks with
  | nil => simp [itemsO] at h; subst h; simp [itemsO, hx]
  | cons y l ih =>
    simp only [itemsO] at h
    split at h
    · rename_i b bs h1 h2
      injection h with h
      subst h
      simp [itemsO, h1, ih h2]
    · cases h
theorem itemsO_len {M : List (List Int)} : ∀ {l : List (List Int)} {ks : List (Int × List Int)}, itemsO M l = some ks → ks.length = l.length
  | [], ks, h => by simp [itemsO] at h; subst h; rfl
  | y :: l, ks, h => by
    simp only [itemsO] at h
    split at h
    · rename_i b bs h1 h2
      injection h with h
      subst h
      simp [itemsO_len h2]
    · cases h
theorem uniqP_snoc (ks : List (Int × List Int)) (a : Int × List Int) : uniqP (ks ++ [a]) = putP a (uniqP ks) := by simp [uniqP]
theorem uniqP_len (ks : List (Int × List Int)) : (uniqP ks).length ≤ ks.length := by
  have key : ∀ (l acc : List (Int × List Int)), (l.foldl (fun acc x => putP x acc) acc).length ≤ l.length + acc.length := fun l => by
    induction l with
    | nil => intro acc; simp
    | cons x l ih =>
      intro acc
      have := ih (putP x acc)
      have := putP_len x acc
      simp only [List.foldl_cons, List.length_cons]; omega
  have := key ks []
  simpa [uniqP] using this
structure SuG (M l : List (List Int)) where
  i : Nat
  hi : i ≤ l.length
  ks : List (Int × List Int)
  h : itemsO M (l.take i) = some ks
theorem item_cases {M : List (List Int)} {x : List Int} (hM : isReducedM M = true) : (∃ v y, innT M x x = tvI v true ∧ cnT x = csT y true ∧ itemO M x = some (v, y)) ∨ (∃ v b y c, innT M x x = tvI v b ∧ cnT x = csT y c ∧ (b && c) = false ∧ itemO M x = none) := by
  unfold innT cnT itemO validM
  rw [hM]
  cases hF : FitB M.length x with
  | false =>
    right
    cases hc : canonS x with
    | none => exact ⟨0, false, [], false, by simp, rfl, rfl, by simp⟩
    | some y => exact ⟨0, false, y, true, by simp, rfl, rfl, by simp⟩
  | true =>
    simp only [Bool.and_self, and_self, if_true]
    unfold wiT normO
    by_cases hb : -4611686018427387904 ≤ accZ x (applyM M x) x.length ∧ accZ x (applyM M x) x.length ≤ 4611686018427387904
    · rw [if_pos hb, if_pos hb]
      cases hc : canonS x with
      | none => exact .inr ⟨_, true, [], false, rfl, rfl, rfl, rfl⟩
      | some y => exact .inl ⟨_, y, rfl, rfl, rfl⟩
    · rw [if_neg hb, if_neg hb]
      right
      cases hc : canonS x with
      | none => exact ⟨0, false, [], false, rfl, rfl, rfl, rfl⟩
      | some y => exact ⟨0, false, y, true, rfl, rfl, rfl, rfl⟩
set_option maxRecDepth 100000 in
set_option maxHeartbeats 8000000 in
theorem rSort_C (M l : List (List Int)) (hM : MI M) (hl : l.length ≤ 1000) (hlx : ∀ x ∈ l, x.length ≤ 17592186043904) : CallC Tryz.prog 12 [slI M, slI l] ⟨[], grT (suL M l) (suB M l)⟩ := by
  have cR := IsReduced_C M hM
  cases hred : isReducedM M with
  | false =>
    rw [hred] at cR
    rw [suT_none (by unfold suO; rw [hred]; rfl)]
    refine callC_of Tryz.func12 rfl (by kernel_rfl) ?_; rw [Tryz.ntmps12]
    (refine WpA_sreg [] [] (by simp) fun K hK => ?_; simp (disch := omega) only [kc, prep1, slI, Nat.reduceAdd, List.replicate, ofConst, Value.oneCell']; (with_reducible refine hK _ ?_))
    (refine WpA_seq (WpA_sreg [⟨1, _, _, _, cR⟩] [] (by simp) fun K hK => ?_); simp (disch := omega) only [kc, slI, CItem.a, prep1, Nat.reduceAdd, opS_call, newS, effA, List.find?_cons, evAll, norm, CallRes.plain, rawTV, rawAV, normOk, noRefTV, noRefAV, renTV, renAV, opS_un, effM, evUn, Bool.not_false]; (with_reducible refine hK _ ?_))
    refine WpA_cond rfl (fun _ => ?_) (fun h => by simp at h)
    (refine WpA_sreg [] [] (by simp) fun K hK => ?_; simp (disch := omega) only [kc, prep1, ofConst, Value.oneCell']; (with_reducible refine hK _ ?_))
    refine WpA_ret ⟨.inr rfl, ret_zs 4 rfl rfl ?_ rfl⟩
    simp (disch := omega) only [kc, resA, Tryz.results12, resL, resOne, tvPair, grT, ls_nil]
  | true =>
    rw [hred] at cR
    refine callC_of Tryz.func12 rfl (by kernel_rfl) ?_; rw [Tryz.ntmps12]
    (refine WpA_sreg [] [] (by simp) fun K hK => ?_; simp (disch := omega) only [kc, prep1, slI, Nat.reduceAdd, List.replicate, ofConst, Value.oneCell']; (with_reducible refine hK _ ?_))
    (refine WpA_seq (WpA_sreg [⟨1, _, _, _, cR⟩] [] (by simp) fun K hK => ?_); simp (disch := omega) only [kc, slI, CItem.a, prep1, Nat.reduceAdd, opS_call, newS, effA, List.find?_cons, evAll, norm, CallRes.plain, rawTV, rawAV, normOk, noRefTV, noRefAV, renTV, renAV, opS_un, effM, evUn]; (with_reducible refine hK _ ?_))
    refine WpA_cond rfl (fun h => by simp at h) (fun _ => WpA_skip ?_)
    show WpA _ _ _ _
    (refine WpA_sreg [] [] (by simp) fun K hK => ?_; simp (disch := omega) only [kc, prep1, ofConst, Value.oneCell']; (with_reducible refine hK _ ?_))
    (refine WpA_seq (WpA_sreg [] [] (by simp) fun K hK => ?_); simp (disch := omega) only [kc, prep1, Nat.reduceAdd, opS_len, effR, ty_slice26, ls_len, ofConst, Value.oneCell']; (with_reducible refine hK _ ?_))
    refine WpA_forb (G := SuG M l) (fun g => ⟨[slI M, jk, jk, jk, jk, jk, slT (uniqP g.ks), jk, jk, jk, jk, jk, jk, jk, jk, jk, slI l, .raw (.int .i64 (l.length : Int)), .raw (.int .i64 (g.i : Int)), jk, jk, jk, jk, jk, jk, jk, jk, jk, jk, jk, jk, jk, jk, jk, jk, jk, jk, jk, jk, jk, jk, jk, jk, jk, jk, jk, jk], Hm []⟩) (fun g => l.length - g.i) ⟨0, by omega, [], rfl⟩ ?_ ?_
    · refine (Weak_zS 6 rfl).trans (Weak_sub trivial ?_)
      simp [wkL, okTV, okAV, uniqP, ls]
    · rintro ⟨i, hi, ks, hks⟩
      simp only
      by_cases hm : i < l.length
      · obtain ⟨x, hx⟩ := getElem?_of_lt hm
        have cN := Norm_C M x hM
        have cC := rCanon_C x (hlx x (List.mem_of_getElem? hx))
        have hkl := itemsO_len hks
        have hkl2 : ks.length = i := by rw [hkl, List.length_take]; omega
        have hul := uniqP_len ks
        rcases item_cases (x := x) hred with ⟨v, y, g1, g2, g3⟩ | ⟨v, b, y, c, g1, g2, g3, g4⟩
        · rw [g1] at cN
          rw [g2] at cC
          have cP := Put_C (uniqP ks) v y (by omega)
          rw [← uniqP_snoc] at cP
          have hks2 : itemsO M (l.take (i + 1)) = some (ks ++ [(v, y)]) := by
            rw [List.take_add_one, hx]
            exact itemsO_snoc hks g3
          generalize uniqP ks = U at *
          (refine WpA_sreg [] [] (by simp) fun K hK => ?_; simp (disch := omega) only [kc, prep1, slI, slT, Hm, effM, evBin, decT]; (with_reducible refine hK _ ?_))
          refine WpA_seq (WpA_cond rfl (fun _ => WpA_skip ?_) (fun h => by simp at h <;> omega))
          refine WpA_seq (WpA_block ?_)
          (refine WpA_sreg [] [] (by simp) fun K hK => ?_; simp (disch := omega) only [kc, prep1, Nat.reduceAdd, opS_indexAddr, effR, natOf_pos, ty_slice26, ls_get, hx, fR, ty_sz29, packT, ty_agg29]; (with_reducible refine hK _ ?_))
          (refine WpA_sreg [⟨2, _, _, _, cN⟩] [] (by simp) fun K hK => ?_; simp (disch := omega) only [kc, slI, sl1, tvI, CItem.a, prep1, Nat.reduceAdd, opS_call, newS, effA, List.find?_cons, evAll, norm, CallRes.plain, rawTV, rawAV, normOk, noRefTV, noRefAV, renTV, renAV, opS_extract, effM]; (with_reducible refine hK _ ?_))
          (refine WpA_sreg [⟨1, _, _, _, cC⟩] [] (by simp) fun K hK => ?_; simp (disch := omega) only [kc, sl1, csT, CItem.a, prep1, Nat.reduceAdd, opS_call, newS, effA, List.find?_cons, evAll, norm, CallRes.plain, rawTV, rawAV, normOk, noRefTV, noRefAV, renTV, renAV, opS_extract, effM]; (with_reducible refine hK _ ?_))
          (refine WpA_seq (WpA_sreg [] [] (by simp) fun K hK => ?_); simp (disch := omega) only [kc, prep1, Nat.reduceAdd, opS_un, effM, evUn, stS_guard, opS_pick]; (with_reducible refine hK _ ?_))
          refine WpA_cond rfl (fun h => by simp at h) (fun _ => WpA_skip ?_)
          show WpA _ _ _ _
          ((refine WpA_lreg [⟨4, _, _, _, cP⟩] [] (by simp) fun K hK => ?_); simp (disch := omega) only [kc, slT, tIt, CItem.a, prep1, Nat.reduceAdd, opS_build, effR, ty_zero71, ty_plc71, Value.oneCell', fillA, cellsOf, Nat.reduceLeDiff, Nat.le_refl, ifT, opS_call, newS, effA, List.find?_cons, evAll, norm, CallRes.plain, rawTV, rawAV, normOk, isPure, noRefTV, noRefAV, renTV, renAV]; (with_reducible refine hK _ ?_))
          show WpA _ _ _ _
          ((refine WpA_lreg [] [] (by simp) fun K hK => ?_); simp (disch := omega) only [kc, prep1, effM, ofConst, Value.oneCell', evBin, wrapI]; (with_reducible refine hK _ ?_))
          refine ⟨⟨i + 1, by omega, ks ++ [(v, y)], hks2⟩, by simp only; omega, Weak_sub trivial ?_⟩
          simp [wkL, okTV, okAV]
        · rw [g1] at cN
          rw [g2] at cC
          rw [suT_none (by
            unfold suO
            rw [hred]
            exact itemsO_none hx g4)]
          (refine WpA_sreg [] [] (by simp) fun K hK => ?_; simp (disch := omega) only [kc, prep1, slI, slT, Hm, effM, evBin, decT]; (with_reducible refine hK _ ?_))
          refine WpA_seq (WpA_cond rfl (fun _ => WpA_skip ?_) (fun h => by simp at h <;> omega))
          refine WpA_seq (WpA_block ?_)
          (refine WpA_sreg [] [] (by simp) fun K hK => ?_; simp (disch := omega) only [kc, prep1, Nat.reduceAdd, opS_indexAddr, effR, natOf_pos, ty_slice26, ls_get, hx, fR, ty_sz29, packT, ty_agg29]; (with_reducible refine hK _ ?_))
          (refine WpA_sreg [⟨2, _, _, _, cN⟩] [] (by simp) fun K hK => ?_; simp (disch := omega) only [kc, slI, sl1, tvI, CItem.a, prep1, Nat.reduceAdd, opS_call, newS, effA, List.find?_cons, evAll, norm, CallRes.plain, rawTV, rawAV, normOk, noRefTV, noRefAV, renTV, renAV, opS_extract, effM]; (with_reducible refine hK _ ?_))
          (refine WpA_sreg [⟨1, _, _, _, cC⟩] [] (by simp) fun K hK => ?_; simp (disch := omega) only [kc, sl1, csT, CItem.a, prep1, Nat.reduceAdd, opS_call, newS, effA, List.find?_cons, evAll, norm, CallRes.plain, rawTV, rawAV, normOk, noRefTV, noRefAV, renTV, renAV, opS_extract, effM]; (with_reducible refine hK _ ?_))
          cases b with
          | false =>
            (refine WpA_seq (WpA_sreg [] [] (by simp) fun K hK => ?_); simp (disch := omega) only [kc, prep1, Nat.reduceAdd, opS_un, effM, evUn, Bool.not_false, stS_guard, reduceCtorEq, Option.map_none, opS_pick, ofConst, Value.oneCell']; (with_reducible refine hK _ ?_))
            refine WpA_cond rfl (fun _ => ?_) (fun h => by simp at h)
            (refine WpA_sreg [] [] (by simp) fun K hK => ?_; simp (disch := omega) only [kc, prep1, ofConst, Value.oneCell']; (with_reducible refine hK _ ?_))
            refine WpA_ret ⟨.inr rfl, ret_zs 4 rfl rfl ?_ rfl⟩
            simp (disch := omega) only [kc, resA, Tryz.results12, resL, resOne, tvPair, grT, ls_nil]
          | true =>
            have hcf : c = false := by simpa using g3
            subst hcf
            (refine WpA_seq (WpA_sreg [] [] (by simp) fun K hK => ?_); simp (disch := omega) only [kc, prep1, Nat.reduceAdd, opS_un, effM, evUn, stS_guard, Bool.not_false, opS_pick]; (with_reducible refine hK _ ?_))
            refine WpA_cond rfl (fun _ => ?_) (fun h => by simp at h)
            (refine WpA_sreg [] [] (by simp) fun K hK => ?_; simp (disch := omega) only [kc, prep1, ofConst, Value.oneCell']; (with_reducible refine hK _ ?_))
            refine WpA_ret ⟨.inr rfl, ret_zs 4 rfl rfl ?_ rfl⟩
            simp (disch := omega) only [kc, resA, Tryz.results12, resL, resOne, tvPair, grT, ls_nil]
      · have hin : i = l.length := by omega
        subst hin
        rw [List.take_length] at hks
        have hkl := itemsO_len hks
        have hul := uniqP_len ks
        have cV := Vectors_C (uniqP ks) (by omega)
        rw [suT_some (show suO M l = some ks by unfold suO; rw [hred]; exact hks)]
        generalize uniqP ks = U at *
        (refine WpA_sreg [] [] (by simp) fun K hK => ?_; simp (disch := omega) only [kc, prep1, slI, slT, Hm, effM, evBin, decF]; (with_reducible refine hK _ ?_))
        refine WpA_seq (WpA_cond rfl (fun h => by simp at h <;> omega) (fun _ => WpA_exit ?_))
        show WpA _ _ _ _
        (refine WpA_sreg [⟨1, _, _, _, cV⟩] [] (by simp) fun K hK => ?_; simp (disch := omega) only [kc, slT, slI, CItem.a, prep1, Nat.reduceAdd, opS_call, newS, effA, List.find?_cons, evAll, norm, CallRes.plain, rawTV, rawAV, normOk, noRefTV, noRefAV, renTV, renAV, ofConst, Value.oneCell']; (with_reducible refine hK _ ?_))
        (refine WpA_ret ⟨.inr rfl, ret_now rfl ?_ rfl⟩; simp (disch := omega) only [resA, Tryz.results12, resL, resOne, List.getElem?_cons_succ, List.getElem?_cons_zero, Option.bind_some, tvPair, Option.map_some, grT])
end Go.Proofs.YtobnpabndpmabaaGreat
namespace Go.Proofs.YtobnpabndpmabaaGreat
open Go.RowKit
def wv (n : Nat) (c : List Int) : List Int := (rowF n (vcF c)).set 0 (vcF c 0 + 1)
theorem wv_len (n : Nat) (c : List Int) : (wv n c).length = n := by simp [wv, rowF_len]
def wvL (n : Nat) (K : List (List Int)) (i : Nat) : List (List Int) := (K.take i).map (wv n)
theorem wvL_snoc {n i : Nat} {K : List (List Int)} {c : List Int} (h : K[i]? = some c) : wvL n K i ++ [wv n c] = wvL n K (i + 1) := by
  unfold wvL
  rw [List.take_add_one, h, List.map_append]; rfl
theorem wvL_len (n : Nat) (K : List (List Int)) {i : Nat} (h : i ≤ K.length) : (wvL n K i).length = i := by
  unfold wvL
  rw [List.length_map, List.length_take]; omega
theorem wvL_row {n i : Nat} {K : List (List Int)} : ∀ x ∈ wvL n K i, x.length = n := fun x hx => by
  obtain ⟨c, _, rfl⟩ := List.mem_map.1 hx
  exact wv_len n c
theorem lcIR_set (M : List (List Int)) (k : Nat) (r : List Int) : (lc (fR fI) M).set k [AV.p (.sl (ls fI r))] = lc (fR fI) (M.set k r) := by simp [lc, fR, List.map_set]
set_option maxRecDepth 100000 in
set_option maxHeartbeats 16000000 in
theorem lawSorts_C (dim kind : Nat) (L B : List Int) (KL h l : List (List Int)) (sp : Nat) (hL : I8 L) (hdim : dim ≤ 255) (hkind : kind ≤ 255) (hKL : ∀ c ∈ KL, I8 c) (hh : MI h) (lK : KL.length ≤ 9223372036854775807) (ll : l.length ≤ 9223372036854775807) (lx : ∀ x ∈ l, x.length ≤ 17592186043904) (hsp : sp ≤ 255) :
    CallC Tryz.prog 3 [tL dim kind L B, sl8M KL, slI h, slI l, .raw (.int .u8 (sp : Int))] ⟨[], .raw (.bool true)⟩ := by
  have c5 := awake_C
  by_cases h1 : 20 < KL.length
  · refine callC_of Tryz.func3 rfl (by kernel_rfl) ?_; rw [Tryz.ntmps3]
    (refine WpA_sreg [] [] (by simp) fun K hK => ?_; simp (disch := omega) only [kc, prep1, tL, sl8M, slI, Nat.reduceAdd, List.replicate, opS_box, newS, effA, cellsOf, isPure, ifT, ofConst, Value.oneCell']; (with_reducible refine hK _ ?_))
    (refine WpA_seq (WpA_sreg [] [] (by simp) fun K hK => ?_); simp (disch := omega) only [kc, prep1, Nat.reduceAdd, opS_len, effR, ty_slice25, ls_len, effM, ofConst, Value.oneCell', evBin, decT, stS_guard, reduceCtorEq, ty_slice26, Option.map_none, opS_pick]; (with_reducible refine hK _ ?_))
    refine WpA_cond rfl (fun _ => ?_) (fun h => by simp at h <;> omega)
    (refine WpA_sreg [⟨0, _, _, _, c5⟩] [] (by simp) fun K hK => ?_; simp (disch := omega) only [kc, CItem.a, prep1, opS_call, newS, effA, List.find?_cons, evAll, CallRes.plain, rawTV, rawAV, noRefTV, noRefAV, renTV, renAV]; (with_reducible refine hK _ ?_))
    (refine WpA_ret ⟨.inr rfl, ret_now rfl ?_ rfl⟩; simp (disch := omega) only [resA, Tryz.results3, resOne, List.getElem?_cons_succ, List.getElem?_cons_zero])
  by_cases h2 : 20 < l.length
  · refine callC_of Tryz.func3 rfl (by kernel_rfl) ?_; rw [Tryz.ntmps3]
    (refine WpA_sreg [] [] (by simp) fun K hK => ?_; simp (disch := omega) only [kc, prep1, tL, sl8M, slI, Nat.reduceAdd, List.replicate, opS_box, newS, effA, cellsOf, isPure, ifT, ofConst, Value.oneCell']; (with_reducible refine hK _ ?_))
    (refine WpA_seq (WpA_sreg [] [] (by simp) fun K hK => ?_); simp (disch := omega) only [kc, prep1, Nat.reduceAdd, opS_len, effR, ty_slice25, ls_len, effM, ofConst, Value.oneCell', evBin, decF, stS_guard, ty_slice26, ifT, decT, opS_pick]; (with_reducible refine hK _ ?_))
    refine WpA_cond rfl (fun _ => ?_) (fun h => by simp at h <;> omega)
    (refine WpA_sreg [⟨0, _, _, _, c5⟩] [] (by simp) fun K hK => ?_; simp (disch := omega) only [kc, CItem.a, prep1, opS_call, newS, effA, List.find?_cons, evAll, CallRes.plain, rawTV, rawAV, noRefTV, noRefAV, renTV, renAV]; (with_reducible refine hK _ ?_))
    (refine WpA_ret ⟨.inr rfl, ret_now rfl ?_ rfl⟩; simp (disch := omega) only [resA, Tryz.results3, resOne, List.getElem?_cons_succ, List.getElem?_cons_zero])
  obtain ⟨n, hn⟩ : ∃ n, n = 1 + dim % 3 := ⟨_, rfl⟩
  obtain ⟨f, hr, cF⟩ := Form_C dim kind L B 3 n hL hdim hkind (by omega) (by omega) hn
  rw [show ((3 : Nat) : Int) = 3 from rfl] at cF
  have hM := MI_red (by omega) (by omega) hr
  have hml := mat_len n n f
  generalize mat n n f = M at *
  obtain ⟨k, hk⟩ : ∃ k, k = KL.length := ⟨_, rfl⟩
  have hkl := hk.symm
  have g3 := pSort_C h l (by omega)
  have g4 := rSort_C h l hh (by omega) lx
  have s2 := same_C (suL h l) (suL h l)
  rw [decide_eq_true rfl] at s2
  generalize suL h l = G2 at *
  generalize suB h l = b2 at *
  refine callC_of Tryz.func3 rfl (by kernel_rfl) ?_; rw [Tryz.ntmps3]
  (refine WpA_sreg [] [] (by simp) fun K hK => ?_; simp (disch := omega) only [kc, prep1, tL, sl8M, slI, Nat.reduceAdd, List.replicate, opS_box, newS, effA, cellsOf, isPure, ifT, ofConst, Value.oneCell']; (with_reducible refine hK _ ?_))
  (refine WpA_seq (WpA_sreg [] [] (by simp) fun K hK => ?_); simp (disch := omega) only [kc, prep1, Nat.reduceAdd, opS_len, effR, ty_slice25, ls_len, effM, ofConst, Value.oneCell', evBin, decF, stS_guard, ty_slice26, ifT, opS_pick]; (with_reducible refine hK _ ?_))
  refine WpA_cond rfl (fun h => by simp at h <;> omega) (fun _ => WpA_skip ?_)
  show WpA _ _ _ _
  (refine WpA_sreg [⟨1, _, _, _, cF⟩] [] (by simp) fun K hK => ?_; simp (disch := omega) only [kc, tL, slI, CItem.a, prep1, Nat.reduceAdd, effR, updH, packT, ty_sz24, ty_agg24, Nat.le_refl, opS_call, newS, effA, List.find?_cons, evAll, ofConst, Value.oneCell', norm, CallRes.plain, rawTV, rawAV, normOk, isPure, noRefTV, noRefAV, renTV, renAV]; (with_reducible refine hK _ ?_))
  (refine WpA_sreg [] [] (by simp) fun K hK => ?_; simp (disch := omega) only [kc, prep1, ofConst, Value.oneCell']; (with_reducible refine hK _ ?_))
  (refine WpA_seq (WpA_sreg [] [] (by simp) fun K hK => ?_); simp (disch := omega) only [kc, prep1, Nat.reduceAdd, hkl, opS_len, effR, ty_slice25, ls_len, ofConst, Value.oneCell']; (with_reducible refine hK _ ?_))
  refine WpA_forb (G := FiG k) (fun g => ⟨[jk, jk, slI h, slI l, .raw (.int .u8 (sp : Int)), jk, jk, jk, jk, jk, jk, slI M, .one (.sl 53 0 0 g.i), jk, jk, jk, jk, jk, jk, jk, jk, jk, jk, jk, jk, jk, jk, jk, jk, jk, jk, jk, jk, jk, jk, sl8M KL, .raw (.int .i64 (k : Int)), .raw (.int .i64 (g.i : Int)), jk, jk, jk, jk, jk, jk, jk, jk, jk, jk, jk, jk, jk, jk, jk, jk, jk, jk, jk, jk, jk, jk, jk, jk, jk, jk, jk, jk, jk, jk, jk, jk, jk, jk, jk, jk, jk, jk, jk, jk, jk, jk, jk, jk, jk, jk, jk, jk, jk, jk, jk, jk, jk, jk, jk, jk, jk, jk, jk, jk, jk, jk, jk, jk, jk, jk, jk, jk, jk, jk, jk, jk, jk, jk, jk, jk, jk, jk, jk, jk, jk, jk], Hm [(53, [⟨29, 1, lc (fR fI) (wvL n KL g.i)⟩])]⟩) (fun g => k - g.i) ⟨0, by omega⟩ ?_ ?_
  · refine (Weak_nil (k := 12) (d := 53) 29 1 (by omega) rfl rfl).trans (Weak_sub ⟨rfl, trivial⟩ ?_)
    simp [wkL, okTV, okAV]
  · rintro ⟨i, hi⟩
    simp only
    by_cases hm : i < k
    · obtain ⟨c, hc⟩ := getElem?_of_lt (show i < KL.length by omega)
      have hc8 := hKL c (List.mem_of_getElem? hc)
      have cV := Vector_C c n hc8 (by omega)
      have hvl := wvL_len n KL (show i ≤ KL.length by omega)
      have hb := vc_bd hc8 0
      have hg0 := rowF_get (m := n) (j := 0) (vcF c) (by omega)
      have hrl := rowF_len n (vcF c)
      have hwv : (rowF n (vcF c)).set 0 (vcF c 0 + 1) = wv n c := rfl
      have hwl := wv_len n c
      have hsn := wvL_snoc (n := n) hc
      obtain ⟨V', hV'⟩ : ∃ V', V' = wvL n KL (i + 1) := ⟨_, rfl⟩
      rw [← hV'] at hsn
      generalize wvL n KL i = V at *
      generalize wv n c = W at *
      generalize rowF n (vcF c) = R at *
      generalize vcF c 0 = z at *
      (refine WpA_sreg [] [] (by simp) fun K hK => ?_; simp (disch := omega) only [kc, prep1, slI, sl8M, Hm, effM, evBin, decT]; (with_reducible refine hK _ ?_))
      refine WpA_seq (WpA_cond rfl (fun _ => WpA_skip ?_) (fun h => by simp at h <;> omega))
      refine WpA_seq (WpA_block ?_)
      (refine WpA_sreg [] [] (by simp) fun K hK => ?_; simp (disch := omega) only [kc, prep1, Nat.reduceAdd, opS_indexAddr, effR, natOf_pos, ty_slice25, ls_get, hc, fR, ty_sz22, packT, ty_agg22]; (with_reducible refine hK _ ?_))
      (refine WpA_sreg [⟨3, _, _, _, cV⟩] [] (by simp) fun K hK => ?_; simp (disch := omega) only [kc, sl8, CItem.a, prep1, Nat.reduceAdd, opS_len, effR, ty_slice26, ls_len, hml, opS_call, newS, effA, List.find?_cons, evAll, norm, CallRes.plain, List.isEmpty_cons, rawTV, rawAV, normOk, Bool.not_false, noRefTV, noRefAV, Bool.or_false, renTV, renAV, renO, lc_ren, Nat.reduceEqDiff]; (with_reducible refine hK _ ?_))
      (refine WpA_sreg [] [] (by simp) fun K hK => ?_; simp (disch := omega) only [kc, prep1, Nat.reduceAdd, opS_indexAddr, effR, ofConst, Value.oneCell', natOf_pos, Int.reduceToNat, ty_slice29, updH, Nat.reduceEqDiff, ty_sz2, Nat.add_zero, ifT, lc_get, fI, hg0, packT, ty_agg2, effM, evBin, wrapI, opS_store, wrS, effD, cellsOf, Nat.le_refl, isPure, putCells, lcI_set, hwv, killTV, killAV]; (with_reducible refine hK _ ?_))
      refine WpA.weak ((Weak_fz 44 (fzOk_one rfl)).trans (Weak_sub (tm := [jk, jk, slI h, slI l, .raw (.int .u8 (sp : Int)), jk, jk, jk, jk, jk, jk, slI M, .one (.sl 53 0 0 i), jk, jk, sl1 W, jk, jk, jk, jk, jk, jk, jk, jk, jk, jk, jk, jk, jk, jk, jk, jk, jk, jk, jk, sl8M KL, .raw (.int .i64 (k : Int)), .raw (.int .i64 (i : Int)), jk, jk, jk, jk, jk, jk, jk, jk, jk, jk, jk, jk, jk, jk, jk, jk, jk, jk, jk, jk, jk, jk, jk, jk, jk, jk, jk, jk, jk, jk, jk, jk, jk, jk, jk, jk, jk, jk, jk, jk, jk, jk, jk, jk, jk, jk, jk, jk, jk, jk, jk, jk, jk, jk, jk, jk, jk, jk, jk, jk, jk, jk, jk, jk, jk, jk, jk, jk, jk, jk, jk, jk, jk, jk, jk, jk, jk, jk, jk, jk, jk, jk]) (l := [(53, [⟨29, 1, lc (fR fI) V⟩])]) ⟨rfl, trivial⟩ (by simp [wkL, okTV, okAV, fzTV, fzAV, updH, Hm, lc_take, lc_cellF, List.take_of_length_le, hwl]))) ?_
      ((refine WpA_lreg [] [] (by simp) fun K hK => ?_); simp (disch := omega) only [kc, prep1, Nat.reduceAdd, slI, sl1, sl8M, Hm, opS_buildSlice, newS, effA, ty_slice26, ty_zero29, ty_sz29, litA, cellsOf, isPure, Nat.reduceMul, Nat.reduceLeDiff, List.contains_nil, unP, ifT, opS_append, appS, effD, newsOf, ty_by29, lc_allp, lc_len, hvl, allcons, allnil, and_true, killO, lc_kill, lcIR_snoc, hsn, wrS, killTV, killAV]; (with_reducible refine hK _ ?_))
      show WpA _ _ _ _
      ((refine WpA_lreg [] [] (by simp) fun K hK => ?_); simp (disch := omega) only [kc, prep1, effM, ofConst, Value.oneCell', evBin, wrapI]; (with_reducible refine hK _ ?_))
      refine ⟨⟨i + 1, by omega⟩, by simp only; omega, Weak_sub ⟨?_, trivial⟩ ?_⟩
      · show _ = [(⟨_, _, lc (fR fI) (wvL n KL (i + 1))⟩ : OObj)]
        rw [← hV']; rfl
      · simp [wkL, okTV, okAV]
    · have hin : i = k := by omega
      subst hin
      have hvl := wvL_len n KL (show i ≤ KL.length by omega)
      have hrow : ∀ x ∈ wvL n KL i, x.length = n := wvL_row
      generalize wvL n KL i = V at *
      (refine WpA_sreg [] [] (by simp) fun K hK => ?_; simp (disch := omega) only [kc, prep1, slI, sl8M, Hm, effM, evBin, decF]; (with_reducible refine hK _ ?_))
      refine WpA_seq (WpA_cond rfl (fun h => by simp at h <;> omega) (fun _ => WpA_exit ?_))
      show WpA _ _ _ _
      obtain ⟨Y, hY⟩ : ∃ Y, Y = if 0 < i ∧ sp % 8 = 0 then V.set 0 ((V.getD 0 []).take (sp / 8 % n)) else V := ⟨_, rfl⟩
      have hYl : Y.length = i := by rw [hY]; split <;> simp [hvl]
      have hYr : ∀ x ∈ Y, x.length ≤ 17592186043904 := fun x hx => by
        rw [hY] at hx
        split at hx
        · rcases List.mem_or_eq_of_mem_set hx with hx | rfl
          · have := hrow x hx; omega
          · rw [List.length_take]
            have : sp / 8 % n < n := Nat.mod_lt _ (by omega)
            omega
        · have := hrow x hx; omega
      have g1 := pSort_C M Y (by omega)
      have g2 := rSort_C M Y hM (by omega) hYr
      have s1 := same_C (suL M Y) (suL M Y)
      rw [decide_eq_true rfl] at s1
      have e8 : Int.tmod (sp : Int) 8 = ((sp % 8 : Nat) : Int) := (Int.ofNat_tmod sp 8).symm
      have ed : Int.tdiv (sp : Int) 8 = ((sp / 8 : Nat) : Int) := (Int.ofNat_tdiv sp 8).symm
      have en : Int.tmod ((sp / 8 : Nat) : Int) (n : Int) = ((sp / 8 % n : Nat) : Int) := (Int.ofNat_tmod (sp / 8) n).symm
      have ew : IntKind.u8.wrap ((sp / 8 : Nat) : Int) = ((sp / 8 : Nat) : Int) := by rw [IntKind.wrap_u8]; omega
      have hlt : sp / 8 % n < n := Nat.mod_lt _ (by omega)
      by_cases hc0 : 0 < i
      · obtain ⟨v0, hv0⟩ := getElem?_of_lt (show 0 < V.length by omega)
        have hv0l := hrow v0 (List.mem_of_getElem? hv0)
        by_cases hc8 : sp % 8 = 0
        · rw [if_pos ⟨hc0, hc8⟩, List.getD_eq_getElem?_getD, hv0, Option.getD_some] at hY
          (refine WpA_seq (WpA_sreg [] [] (by simp) fun K hK => ?_); simp (disch := omega) only [kc, prep1, Nat.reduceAdd, opS_len, effR, ty_slice26, effM, ofConst, Value.oneCell', evBin, decT, stS_guard, ifT, e8, opS_pick]; (with_reducible refine hK _ ?_))
          refine WpA_cut (S := ⟨[jk, jk, slI h, slI l, jk, jk, jk, jk, jk, jk, jk, slI M, slI Y, jk, jk, jk, jk, jk, jk, jk, jk, jk, jk, jk, jk, jk, jk, jk, jk, jk, jk, jk, jk, jk, jk, jk, jk, jk, jk, jk, jk, jk, jk, jk, jk, jk, jk, jk, jk, jk, jk, jk, jk, jk, jk, jk, jk, jk, jk, jk, jk, jk, jk, jk, jk, jk, jk, jk, jk, jk, jk, jk, jk, jk, jk, jk, jk, jk, jk, jk, jk, jk, jk, jk, jk, jk, jk, jk, jk, jk, jk, jk, jk, jk, jk, jk, jk, jk, jk, jk, jk, jk, jk, jk, jk, jk, jk, jk, jk, jk, jk, jk, jk, jk, jk, jk, jk, jk, jk, jk], Hm []⟩) ?_ ?_
          · refine WpA_cond rfl (fun _ => ?_) (fun h => by simp at h <;> omega)
            ((refine WpA_ldraw mixedA [] [] (by kernel_rfl) (by simp) fun K hK => ?_); simp (disch := omega) only [kc, prep1, Nat.reduceAdd, opS_indexAddr, effR, ofConst, Value.oneCell', natOf_pos, Int.reduceToNat, ty_slice26, ty_sz29, Nat.add_zero, ifT, lc_get, fR, hv0, packT, ty_agg29, effM, evBin, ed, ew, opS_conv, Tryz.underlying5, ty_int3, wrapI, opS_len, ls_len, hml, en, opS_slice, ty_slice29, bound, ty_sz2, Nat.zero_le, hv0l, ls_all fI_len, and_true, ls_take, opS_store, wrS, effD, cellsOf, Nat.le_refl, isPure, putCells, lcIR_set, killTV, killAV]; (with_reducible refine hK _ ?_))
            refine (Weak_fz 53 (fzOk_one rfl)).trans (Weak_sub trivial ?_)
            rw [hY]
            simp [wkL, okTV, okAV, fzTV, fzAV, updH, Hm, lc_take, lc_cellF, List.take_of_length_le, hvl]
          · clear hY
            generalize suL M Y = G1 at *
            generalize suB M Y = b1 at *
            (refine WpA_sreg [⟨2, _, _, _, g1⟩] [] (by simp) fun K hK => ?_; simp (disch := omega) only [kc, slI, grT, CItem.a, prep1, Nat.reduceAdd, Hm, opS_call, newS, effA, List.find?_cons, evAll, norm, CallRes.plain, rawTV, rawAV, normOk, noRefTV, noRefAV, renTV, renAV, opS_extract, effM]; (with_reducible refine hK _ ?_))
            (refine WpA_sreg [⟨2, _, _, _, g2⟩] [] (by simp) fun K hK => ?_; simp (disch := omega) only [kc, slI, grT, CItem.a, prep1, Nat.reduceAdd, opS_call, newS, effA, List.find?_cons, evAll, norm, CallRes.plain, rawTV, rawAV, normOk, noRefTV, noRefAV, renTV, renAV, opS_extract, effM]; (with_reducible refine hK _ ?_))
            (refine WpA_sreg [⟨2, _, _, _, g3⟩] [] (by simp) fun K hK => ?_; simp (disch := omega) only [kc, slI, grT, CItem.a, prep1, Nat.reduceAdd, opS_call, newS, effA, List.find?_cons, evAll, norm, CallRes.plain, rawTV, rawAV, normOk, noRefTV, noRefAV, renTV, renAV, opS_extract, effM]; (with_reducible refine hK _ ?_))
            (refine WpA_sreg [⟨2, _, _, _, g4⟩] [] (by simp) fun K hK => ?_; simp (disch := omega) only [kc, slI, grT, CItem.a, prep1, Nat.reduceAdd, opS_call, newS, effA, List.find?_cons, evAll, norm, CallRes.plain, rawTV, rawAV, normOk, noRefTV, noRefAV, renTV, renAV, opS_extract, effM]; (with_reducible refine hK _ ?_))
            (refine WpA_sreg [⟨6, _, _, _, s1⟩, ⟨16, _, _, _, s2⟩, ⟨19, _, _, _, c5⟩] [] (by simp) fun K hK => ?_; simp (disch := omega) only [kc, slI, CItem.a, prep1, Nat.reduceAdd, effM, evBin, ty_bool4, stS_guard, opS_call, newS, effA, List.find?_cons, evAll, norm, CallRes.plain, rawTV, rawAV, normOk, noRefTV, noRefAV, renTV, renAV, ifT, opS_pick, Nat.reduceBEq]; (with_reducible refine hK _ ?_))
            (refine WpA_ret ⟨.inr rfl, ret_now rfl ?_ rfl⟩; simp (disch := omega) only [resA, Tryz.results3, resOne, List.getElem?_cons_succ, List.getElem?_cons_zero])
        · rw [if_neg (fun h => hc8 h.2)] at hY
          subst hY
          (refine WpA_seq (WpA_sreg [] [] (by simp) fun K hK => ?_); simp (disch := omega) only [kc, prep1, Nat.reduceAdd, opS_len, effR, ty_slice26, effM, ofConst, Value.oneCell', evBin, decT, stS_guard, ifT, e8, decF, opS_pick]; (with_reducible refine hK _ ?_))
          refine WpA_cut (S := ⟨[jk, jk, slI h, slI l, jk, jk, jk, jk, jk, jk, jk, slI M, slI Y, jk, jk, jk, jk, jk, jk, jk, jk, jk, jk, jk, jk, jk, jk, jk, jk, jk, jk, jk, jk, jk, jk, jk, jk, jk, jk, jk, jk, jk, jk, jk, jk, jk, jk, jk, jk, jk, jk, jk, jk, jk, jk, jk, jk, jk, jk, jk, jk, jk, jk, jk, jk, jk, jk, jk, jk, jk, jk, jk, jk, jk, jk, jk, jk, jk, jk, jk, jk, jk, jk, jk, jk, jk, jk, jk, jk, jk, jk, jk, jk, jk, jk, jk, jk, jk, jk, jk, jk, jk, jk, jk, jk, jk, jk, jk, jk, jk, jk, jk, jk, jk, jk, jk, jk, jk, jk, jk], Hm []⟩) ?_ ?_
          · refine WpA_cond rfl (fun h => by simp at h <;> omega) (fun _ => WpA_skip ?_)
            refine (Weak_fz 53 (fzOk_one rfl)).trans (Weak_sub trivial ?_)
            simp [wkL, okTV, okAV, fzTV, fzAV, updH, Hm, lc_take, lc_cellF, List.take_of_length_le, hvl]
          · generalize suL M Y = G1 at *
            generalize suB M Y = b1 at *
            (refine WpA_sreg [⟨2, _, _, _, g1⟩] [] (by simp) fun K hK => ?_; simp (disch := omega) only [kc, slI, grT, CItem.a, prep1, Nat.reduceAdd, Hm, opS_call, newS, effA, List.find?_cons, evAll, norm, CallRes.plain, rawTV, rawAV, normOk, noRefTV, noRefAV, renTV, renAV, opS_extract, effM]; (with_reducible refine hK _ ?_))
            (refine WpA_sreg [⟨2, _, _, _, g2⟩] [] (by simp) fun K hK => ?_; simp (disch := omega) only [kc, slI, grT, CItem.a, prep1, Nat.reduceAdd, opS_call, newS, effA, List.find?_cons, evAll, norm, CallRes.plain, rawTV, rawAV, normOk, noRefTV, noRefAV, renTV, renAV, opS_extract, effM]; (with_reducible refine hK _ ?_))
            (refine WpA_sreg [⟨2, _, _, _, g3⟩] [] (by simp) fun K hK => ?_; simp (disch := omega) only [kc, slI, grT, CItem.a, prep1, Nat.reduceAdd, opS_call, newS, effA, List.find?_cons, evAll, norm, CallRes.plain, rawTV, rawAV, normOk, noRefTV, noRefAV, renTV, renAV, opS_extract, effM]; (with_reducible refine hK _ ?_))
            (refine WpA_sreg [⟨2, _, _, _, g4⟩] [] (by simp) fun K hK => ?_; simp (disch := omega) only [kc, slI, grT, CItem.a, prep1, Nat.reduceAdd, opS_call, newS, effA, List.find?_cons, evAll, norm, CallRes.plain, rawTV, rawAV, normOk, noRefTV, noRefAV, renTV, renAV, opS_extract, effM]; (with_reducible refine hK _ ?_))
            (refine WpA_sreg [⟨6, _, _, _, s1⟩, ⟨16, _, _, _, s2⟩, ⟨19, _, _, _, c5⟩] [] (by simp) fun K hK => ?_; simp (disch := omega) only [kc, slI, CItem.a, prep1, Nat.reduceAdd, effM, evBin, ty_bool4, stS_guard, opS_call, newS, effA, List.find?_cons, evAll, norm, CallRes.plain, rawTV, rawAV, normOk, noRefTV, noRefAV, renTV, renAV, ifT, opS_pick, Nat.reduceBEq]; (with_reducible refine hK _ ?_))
            (refine WpA_ret ⟨.inr rfl, ret_now rfl ?_ rfl⟩; simp (disch := omega) only [resA, Tryz.results3, resOne, List.getElem?_cons_succ, List.getElem?_cons_zero])
      · rw [if_neg (fun h => hc0 h.1)] at hY
        subst hY
        (refine WpA_seq (WpA_sreg [] [] (by simp) fun K hK => ?_); simp (disch := omega) only [kc, prep1, Nat.reduceAdd, opS_len, effR, ty_slice26, effM, ofConst, Value.oneCell', evBin, decF, stS_guard, Option.map_none, opS_pick]; (with_reducible refine hK _ ?_))
        refine WpA_cut (S := ⟨[jk, jk, slI h, slI l, jk, jk, jk, jk, jk, jk, jk, slI M, slI Y, jk, jk, jk, jk, jk, jk, jk, jk, jk, jk, jk, jk, jk, jk, jk, jk, jk, jk, jk, jk, jk, jk, jk, jk, jk, jk, jk, jk, jk, jk, jk, jk, jk, jk, jk, jk, jk, jk, jk, jk, jk, jk, jk, jk, jk, jk, jk, jk, jk, jk, jk, jk, jk, jk, jk, jk, jk, jk, jk, jk, jk, jk, jk, jk, jk, jk, jk, jk, jk, jk, jk, jk, jk, jk, jk, jk, jk, jk, jk, jk, jk, jk, jk, jk, jk, jk, jk, jk, jk, jk, jk, jk, jk, jk, jk, jk, jk, jk, jk, jk, jk, jk, jk, jk, jk, jk, jk], Hm []⟩) ?_ ?_
        · refine WpA_cond rfl (fun h => by simp at h <;> omega) (fun _ => WpA_skip ?_)
          refine (Weak_fz 53 (fzOk_one rfl)).trans (Weak_sub trivial ?_)
          simp [wkL, okTV, okAV, fzTV, fzAV, updH, Hm, lc_take, lc_cellF, List.take_of_length_le, hvl]
        · generalize suL M Y = G1 at *
          generalize suB M Y = b1 at *
          (refine WpA_sreg [⟨2, _, _, _, g1⟩] [] (by simp) fun K hK => ?_; simp (disch := omega) only [kc, slI, grT, CItem.a, prep1, Nat.reduceAdd, Hm, opS_call, newS, effA, List.find?_cons, evAll, norm, CallRes.plain, rawTV, rawAV, normOk, noRefTV, noRefAV, renTV, renAV, opS_extract, effM]; (with_reducible refine hK _ ?_))
          (refine WpA_sreg [⟨2, _, _, _, g2⟩] [] (by simp) fun K hK => ?_; simp (disch := omega) only [kc, slI, grT, CItem.a, prep1, Nat.reduceAdd, opS_call, newS, effA, List.find?_cons, evAll, norm, CallRes.plain, rawTV, rawAV, normOk, noRefTV, noRefAV, renTV, renAV, opS_extract, effM]; (with_reducible refine hK _ ?_))
          (refine WpA_sreg [⟨2, _, _, _, g3⟩] [] (by simp) fun K hK => ?_; simp (disch := omega) only [kc, slI, grT, CItem.a, prep1, Nat.reduceAdd, opS_call, newS, effA, List.find?_cons, evAll, norm, CallRes.plain, rawTV, rawAV, normOk, noRefTV, noRefAV, renTV, renAV, opS_extract, effM]; (with_reducible refine hK _ ?_))
          (refine WpA_sreg [⟨2, _, _, _, g4⟩] [] (by simp) fun K hK => ?_; simp (disch := omega) only [kc, slI, grT, CItem.a, prep1, Nat.reduceAdd, opS_call, newS, effA, List.find?_cons, evAll, norm, CallRes.plain, rawTV, rawAV, normOk, noRefTV, noRefAV, renTV, renAV, opS_extract, effM]; (with_reducible refine hK _ ?_))
          (refine WpA_sreg [⟨6, _, _, _, s1⟩, ⟨16, _, _, _, s2⟩, ⟨19, _, _, _, c5⟩] [] (by simp) fun K hK => ?_; simp (disch := omega) only [kc, slI, CItem.a, prep1, Nat.reduceAdd, effM, evBin, ty_bool4, stS_guard, opS_call, newS, effA, List.find?_cons, evAll, norm, CallRes.plain, rawTV, rawAV, normOk, noRefTV, noRefAV, renTV, renAV, ifT, opS_pick, Nat.reduceBEq]; (with_reducible refine hK _ ?_))
          (refine WpA_ret ⟨.inr rfl, ret_now rfl ?_ rfl⟩; simp (disch := omega) only [resA, Tryz.results3, resOne, List.getElem?_cons_succ, List.getElem?_cons_zero])
end Go.Proofs.YtobnpabndpmabaaGreat
namespace Go.Proofs.YtobnpabndpmabaaGreat
open Go.ChangeShapes Go.WideShapes Go.ChangeAt Go.RowKit
theorem weightsAll_mem {H : Type} {P : Program} {e : TypeId} {x : Nat} : ∀ {l : List (DataW H)} {d : DataW H}, d ∈ l → x ∈ d.weights P e → x ∈ DataW.weightsAll P e l
  | [], d, h, _ => by simp at h
  | a :: l, d, h, hx => by
    unfold DataW.weightsAll
    rw [List.mem_append]
    rcases List.mem_cons.1 h with rfl | h
    · exact .inl hx
    · exact .inr (weightsAll_mem h hx)
theorem weightsEach_mem {H : Type} {P : Program} {x : Nat} : ∀ {ts : List TypeId} {l : List (DataW H)} {j : Nat} {t : TypeId} {d : DataW H}, ts[j]? = some t → l[j]? = some d → x ∈ d.weights P t → x ∈ DataW.weightsEach P ts l
  | [], l, j, t, d, h, _, _ => by simp at h
  | t0 :: ts, [], j, t, d, _, h, _ => by simp at h
  | t0 :: ts, d0 :: l, 0, t, d, h, h', hx => by
    simp at h h'
    subst h h'
    unfold DataW.weightsEach
    exact List.mem_append_left _ hx
  | t0 :: ts, d0 :: l, j + 1, t, d, h, h', hx => by
    simp at h h'
    unfold DataW.weightsEach
    exact List.mem_append_right _ (weightsEach_mem h h' hx)
theorem open_rdMW {H : Type} {enc : TypeId × Value → H} {P : Program} {W : World} {base : Nat} {held : Bool} {t e e' : TypeId} {k : IntKind} {a : Option Addr} {len cap : Nat} {d : DataW H} {p : List MemPlace}
    (ht : P.underlying t = some (.slice e)) (he : P.underlying e = some (.slice e')) (he' : P.underlying e' = some (.int k)) (hc : P.cellsOf e = 1) (hc' : P.cellsOf e' = 1) (h : DataW.Trod enc P W base (fun _ => true) held t (.slice a len cap) d p) :
    ∃ M : List (List Int), len = M.length ∧ len ≤ cap ∧ cap ≤ maxLen ∧ RdM k W a M ∧ (∀ r ∈ M, ∀ n ∈ r, (Lit.int k n).wf = true) ∧ ∀ N, (∀ x ∈ d.weights P t, x ≤ N) → ∀ r ∈ M, r.length * P.bytesOf e' ≤ N := by
  obtain ⟨fuel, hf⟩ := h
  rcases DataW.trod_slice ht hf with ⟨hcs, hx⟩ | ⟨x, l, c, elems, rest, n, _, hcs, hx, hb, hl, hm, hlen, hel, hsp, hns⟩
  · simp [Value.cells] at hcs
    obtain ⟨rfl, rfl, rfl⟩ := hcs
    exact ⟨[], rfl, Nat.le_refl _, Nat.zero_le _, RdM.nil _ _ _, by simp, by simp⟩
  · simp [Value.cells] at hcs
    obtain ⟨rfl, rfl, rfl⟩ := hcs
    have hd : d = .slice (elems.map (·.1)) (rest.map (·.1)) := (Prod.mk.inj hx).1
    have hex : ∀ i, i < len → ∃ r : List Int, (∃ v, W.cell? (x.add i) = some v ∧ SlI k W v r) ∧ (∀ n ∈ r, (Lit.int k n).wf = true) ∧ ∀ N, (∀ x ∈ d.weights P t, x ≤ N) → r.length * P.bytesOf e' ≤ N := fun i hi => by
      have hE := hel i hi
      rw [hc, Nat.mul_one] at hE
      obtain ⟨y, hy⟩ : ∃ y, elems[i]? = some y := ⟨_, List.getElem?_eq_getElem (by omega)⟩
      rw [hy, Option.bind_eq_some_iff] at hE
      obtain ⟨c1, h1, h2⟩ := hE
      obtain ⟨v, rfl, hv⟩ := cells_uno h1
      rcases DataW.trod_slice he h2 with ⟨hcs2, _⟩ | ⟨x2, l2, c2, _, _, _, _, hcs2, _⟩
      · simp at hcs2
        subst hcs2
        exact ⟨[], ⟨_, hv, none, 0, rfl, by simp, by simp, RdI.nil _ _ _⟩, by simp, by simp⟩
      · simp at hcs2
        subst hcs2
        obtain ⟨zs, g1, g2, g3, g4, g5, g6⟩ := open_rdI (enc := enc) (base := base) (held := held) (d := y.1) (p := y.2) he he' hc' ⟨n, by simpa [Value.cells] using h2⟩
        refine ⟨zs, ⟨_, hv, some x2, c2, by rw [g1], by omega, ?_, g4⟩, g5, fun N hN => ?_⟩
        · unfold maxLen at g3
          omega
        · rcases g6 with ⟨_, g6⟩ | ⟨spare, g6, g7⟩
          · rw [show zs.length = 0 by omega]; simp
          · have hw : (zs.length + spare.length) * P.bytesOf e' ∈ y.1.weights P e := by
              rw [g6]
              unfold DataW.weights
              rw [he]
              simp [lits]
            have hmem : (zs.length + spare.length) * P.bytesOf e' ∈ d.weights P t := by
              rw [hd]
              unfold DataW.weights
              rw [ht]
              refine List.mem_cons_of_mem _ (List.mem_append_left _ (weightsAll_mem (d := y.1) ?_ hw))
              exact List.mem_map.2 ⟨y, List.mem_of_getElem? hy, rfl⟩
            exact Nat.le_trans (Nat.mul_le_mul_right _ (by omega)) (hN _ hmem)
    let F : Nat → List Int := fun i => if h : i < len then Classical.choose (hex i h) else []
    have hF : ∀ i, i < len → (∃ v, W.cell? (x.add i) = some v ∧ SlI k W v (F i)) ∧ (∀ n ∈ F i, (Lit.int k n).wf = true) ∧ ∀ N, (∀ x ∈ d.weights P t, x ≤ N) → (F i).length * P.bytesOf e' ≤ N := fun i hi => by
      have := Classical.choose_spec (hex i hi)
      simp only [F, hi, dif_pos]
      exact this
    refine ⟨(List.range len).map F, by simp, hl, hm, fun hne => ?_, fun r hr => ?_, fun N hN r hr => ?_⟩
    · have h0 : 0 < len := by
        rcases Nat.eq_zero_or_pos len with h | h
        · subst h; simp at hne
        · exact h
      obtain ⟨b, off, spot⟩ := x
      obtain ⟨⟨v, hv, _⟩, _⟩ := hF 0 h0
      have hspot : spot = none := by simpa [Addr.add] using World.cell?_spot hv
      subst hspot
      refine ⟨b, off, rfl, fun i r hi => ?_⟩
      rw [List.getElem?_map] at hi
      obtain ⟨j, hj, rfl⟩ := Option.map_eq_some_iff.1 hi
      have hil : i < len := by
        have := (List.getElem?_eq_some_iff.1 hj).1
        simpa using this
      rw [List.getElem?_range hil] at hj
      injection hj with hj
      subst hj
      obtain ⟨⟨v, hv, hs⟩, _⟩ := hF i hil
      exact ⟨v, by rw [← Go.WideShapes.add_plain]; exact hv, hs⟩
    · obtain ⟨i, hi, rfl⟩ := List.mem_map.1 hr
      exact (hF i (by simpa using hi)).2.1
    · obtain ⟨i, hi, rfl⟩ := List.mem_map.1 hr
      exact (hF i (by simpa using hi)).2.2 N hN
end Go.Proofs.YtobnpabndpmabaaGreat
namespace Go.Proofs.YtobnpabndpmabaaGreat
open Go.ChangeShapes Go.WideShapes Go.ChangeAt Go.RowKit
set_option maxRecDepth 100000 in
theorem vectorSorts_lifted (os : Os) (started : os.Started) (H : Type) (enc : TypeId × Value → H) :
    ReturnsInHanded {} Tryz.checked os 3 .any (Rows.vectorSortsSpec.pre6 enc Tryz.prog Tryz.f3 Rows.vectorSortsRow.domain false) (Rows.vectorSortsSpec.post enc Tryz.prog Tryz.f3 false true false false) := by
  refine returnsInHanded_of_change_sized (C := Tryz.checked) Tryz.ownKnob_ started (by kernel_rfl) Tryz.func3
    (ChangeSpec.witness6 (enc := enc) (C := Tryz.checked) false ⟨#[], #[.agg #[.int .u8 0, .int .u8 0, .slice none 0 0, .slice none 0 0], .slice none 0 0, .slice none 0 0, .slice none 0 0, .int .u8 0], []⟩ 8 (by kernel_rfl) (by kernel_rfl) (by kernel_rfl) (by kernel_rfl)) ?_
  intro W base args ds gs before hval0 hW hcnd hsz0 _
  have hval : ∀ (j : Nat) t v, Tryz.f3.params[j]? = some t → args[j]? = some v → Value.okWide Tryz.prog W .any base t v := hval0
  have hsz : (DataW.weightsEach Tryz.prog (Tryz.f3.params.toList ++ Rows.vectorSortsSpec.plain.varTypes Tryz.prog) (ds ++ gs)).all (· ≤ reachBytes) = true := hsz0
  have hW' := hW
  obtain ⟨p, q, hA0, hV, rfl, hfz, hnd⟩ := hW
  have hA : DataW.TrodAll enc Tryz.prog W 0 (fun _ => true) true Tryz.f3.params.toList args.toList ds p := hA0
  rw [Tryz.params3] at hA hval hsz
  obtain ⟨v0, vs0, d0, ds0, p0, q0, hargs, rfl, rfl, h0, r0⟩ := trodAll_cons hA
  obtain ⟨v1, vs1, d1, ds1, p1, q1, rfl, rfl, rfl, h1, r1⟩ := trodAll_cons r0
  obtain ⟨v2, vs2, d2, ds2, p2, q2, rfl, rfl, rfl, h2, r2⟩ := trodAll_cons r1
  obtain ⟨v3, vs3, d3, ds3, p3, q3, rfl, rfl, rfl, h3, r3⟩ := trodAll_cons r2
  obtain ⟨v4, vs4, d4, ds4, p4, q4, rfl, rfl, rfl, h4, r4⟩ := trodAll_cons r3
  obtain ⟨rfl, rfl, rfl⟩ := trodAll_nil r4
  obtain rfl : args = #[v0, v1, v2, v3, v4] := by cases args; simp_all
  obtain ⟨rfl, rfl⟩ := trodVars_none hV
  have k0 := h0
  have lt0 : ∀ x ∈ p0, x.block < W.heap.size := by obtain ⟨m, hm⟩ := k0; exact DataW.trod_lt m _ _ _ hm
  obtain ⟨u00, u01, u02, u03, y00, y01, y02, y03, n0, rfl, rfl, rfl, q00, q01, q02, q03⟩ := Go.Joins.open_agg4 Tryz.underlying24 (by kernel_rfl) (by kernel_rfl) (hval 0 24 v0 rfl rfl) h0
  obtain ⟨dim0, rfl, hd0⟩ := open_cellU Tryz.underlying5 q00
  obtain ⟨kind0, rfl, hk0⟩ := open_cellU Tryz.underlying5 q01
  obtain ⟨L0, rL0, hL0⟩ := open_cell8 Tryz.underlying22 Tryz.underlying98 (by kernel_rfl) q02
  obtain ⟨B0, rB0, hB0⟩ := open_cell8 Tryz.underlying22 Tryz.underlying98 (by kernel_rfl) q03
  obtain ⟨a1, len1, cap1, rfl⟩ := okWide_slice Tryz.underlying25 (hval 1 25 v1 rfl rfl)
  have k1 := h1
  have lt1 : ∀ x ∈ p1, x.block < W.heap.size := by obtain ⟨m, hm⟩ := k1; exact DataW.trod_lt m _ _ _ hm
  obtain ⟨z1, rfl, g11, g12, g13, g14⟩ := open_rdM Tryz.underlying25 Tryz.underlying22 Tryz.underlying98 (by kernel_rfl) (by kernel_rfl) h1
  obtain ⟨a2, len2, cap2, rfl⟩ := okWide_slice Tryz.underlying26 (hval 2 26 v2 rfl rfl)
  have k2 := h2
  have lt2 : ∀ x ∈ p2, x.block < W.heap.size := by obtain ⟨m, hm⟩ := k2; exact DataW.trod_lt m _ _ _ hm
  obtain ⟨z2, rfl, g21, g22, g23, g24⟩ := open_rdM Tryz.underlying26 Tryz.underlying29 Tryz.underlying2 (by kernel_rfl) (by kernel_rfl) h2
  obtain ⟨a3, len3, cap3, rfl⟩ := okWide_slice Tryz.underlying26 (hval 3 26 v3 rfl rfl)
  have k3 := h3
  have lt3 : ∀ x ∈ p3, x.block < W.heap.size := by obtain ⟨m, hm⟩ := k3; exact DataW.trod_lt m _ _ _ hm
  obtain ⟨z3, rfl, g31, g32, g33, g34, g35⟩ := open_rdMW Tryz.underlying26 Tryz.underlying29 Tryz.underlying2 (by kernel_rfl) (by kernel_rfl) h3
  have hrows : ∀ r ∈ z3, r.length ≤ 17592186043904 := fun r hr => by
    have h1 := g35 reachBytes (fun x hx => by
      have := List.all_eq_true.1 hsz x (weightsEach_mem (j := 3) (t := 26) (d := d3) rfl rfl hx)
      simpa using this) r hr
    have h2 : Tryz.prog.bytesOf 2 = 8 := by kernel_rfl
    rw [h2] at h1
    unfold reachBytes at h1
    omega
  obtain ⟨a4, rfl, rfl, rfl, w4⟩ := open_int Tryz.underlying5 (hval 4 5 v4 rfl rfl) h4
  clear hA0 hval0 hsz0
  obtain ⟨bn, hbn⟩ : ∃ bn : Nat, a4 = (bn : Int) := ⟨a4.toNat, by have := wf_u8_bd w4; omega⟩
  have hw4 := wf_u8_bd w4
  subst hbn
  refine ((lawSorts_C dim0 kind0 L0 B0 z1 z2 z3 bn hL0 hd0 hk0 (fun r hr z hz => wf_i8_bd (g14 r hr z hz)) (fun r hr z hz => wf_i64_bd (g24 r hr z hz)) (by unfold maxLen at g12; omega) (by unfold maxLen at g32; omega) hrows (by omega)).law (vs := #[.agg #[.int .u8 (dim0 : Int), .int .u8 (kind0 : Int), u02, u03], .slice a1 z1.length cap1, .slice a2 z2.length cap2, .slice a3 z3.length cap3, .int .u8 (bn : Int)]) rfl (argsT (vs := [.agg #[.int .u8 (dim0 : Int), .int .u8 (kind0 : Int), u02, u03], .slice a1 z1.length cap1, .slice a2 z2.length cap2, .slice a3 z3.length cap3, .int .u8 (bn : Int)]) rfl (fun j t v ht hv => by
    match j, ht, hv with
    | 0, ht, hv => simp at ht hv; subst ht; subst hv; exact rel_L rL0 rB0
    | 1, ht, hv => simp at ht hv; subst ht; subst hv; exact rdM8_rep g11 (by unfold maxLen at g12; omega) g13
    | 2, ht, hv => simp at ht hv; subst ht; subst hv; exact rdM_rep g21 (by unfold maxLen at g22; omega) g23
    | 3, ht, hv => simp at ht hv; subst ht; subst hv; exact rdM_rep g31 (by unfold maxLen at g32; omega) g33
    | 4, ht, hv => simp at ht hv; subst ht; subst hv; exact Rep.raw _ rfl
    | j + 5, ht, hv => simp at ht))).mono fun e W' ⟨he, bel0⟩ => ?_
  have bel : Below W.heap.size W W' := bel0
  subst he
  exact ⟨_, rfl, _, _, _, [], _, [], hW', trodAll_mk1 (shut_bool Tryz.underlying4 _), (trodAll_cons_mk (Below.trod Tryz.laidOut_ (by kernel_rfl) (of_decide_eq_true (by kernel_rfl)) k0 bel lt0) (trodAll_cons_mk (Below.trod Tryz.laidOut_ (by kernel_rfl) (of_decide_eq_true (by kernel_rfl)) k1 bel lt1) (trodAll_cons_mk (Below.trod Tryz.laidOut_ (by kernel_rfl) (of_decide_eq_true (by kernel_rfl)) k2 bel lt2) (trodAll_cons_mk (Below.trod Tryz.laidOut_ (by kernel_rfl) (of_decide_eq_true (by kernel_rfl)) k3 bel lt3) (trodAll_cons_mk (shut_int Tryz.underlying5 w4) trodAll_mk0))))), rfl, bel.frame _, fun h => by cases h⟩
theorem vectorSorts_holds : Rows.VectorSortsSaid :=
  OpenClaim.holds_of_wide 3 Tryz.f3 rfl rfl rfl rfl rfl rfl rfl ⟨rfl, rfl, rfl, rfl, rfl⟩ rfl rfl rfl rfl rfl (by kernel_rfl) Tryz.func3 (by kernel_rfl)
    (of_decide_eq_true (by kernel_rfl)) (by unfold Func.isWrapper; first | (rw [if_pos (by decide +kernel)]; kernel_rfl) | (rw [if_neg (by decide +kernel)]; exact ⟨rfl, rfl⟩))
    (fun os started H enc _ => vectorSorts_lifted os started H enc)
#print axioms vectorSorts_holds
end Go.Proofs.YtobnpabndpmabaaGreat
