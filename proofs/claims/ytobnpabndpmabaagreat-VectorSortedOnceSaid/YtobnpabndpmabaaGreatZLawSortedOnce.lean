/-
  Proved: the statement VectorSortedOnceSaid: for every input the law quadformlaw09.VectorSortedOnce returns true, and each argument reads afterwards as it read before. No condition.
-/
import Derived.Test.YtobnpabndpmabaaGreatP16
set_option linter.all false
namespace Go.Proofs.YtobnpabndpmabaaGreat
open Go.RowKit
theorem newM_rep {k : Nat} {X : Nat → Prop} {w : World} {A : Option Addr} {M : List (List Int)} (h : NewM k w A M) (hX : ∀ b, X b → b < k) : Rep X w (.sl (ls (fR fI) M)) (.slice A M.length M.length) := by
  obtain ⟨hm, b, rfl, hk, hb, hc⟩ := h
  have := Rep.sl (X := X) (w := w) b 0 1 M.length (ls (fR fI) M) (fun i _ => (w.cell? ⟨b, i, none⟩).getD undef) (fun h => absurd (hX _ h) (by omega)) hb (fun e he => by
    obtain ⟨z, _, rfl⟩ := List.mem_map.1 he
    rfl) (by rw [ls_len]; exact Nat.le_refl _) (by rw [ls_len]; omega) (fun i e j x he hx => by
    rw [ls_get] at he
    obtain ⟨r, hr, rfl⟩ := Option.map_eq_some_iff.1 he
    cases j with
    | succ j => simp [fR] at hx
    | zero =>
      obtain ⟨A', c, h1, _⟩ := hc i r hr
      simp only [Nat.mul_one, Nat.add_zero, Nat.zero_add, h1, Option.getD_some]) (fun i e j x he hx => by
    rw [ls_get] at he
    obtain ⟨r, hr, rfl⟩ := Option.map_eq_some_iff.1 he
    cases j with
    | succ j => simp [fR] at hx
    | zero =>
      simp [fR] at hx
      subst hx
      obtain ⟨A', c, h1, h2, h3, h4, h5⟩ := hc i r hr
      simp only [h1, Option.getD_some]
      cases r with
      | nil => exact Rep.nil _ _
      | cons z0 r0 =>
        obtain ⟨b', off', rfl, h6⟩ := h4 (by simp)
        obtain ⟨h7, h8⟩ := h5 _ rfl
        exact rdI_repX (fun h => absurd (hX _ h) (by simp at h7; omega)) h8 h2 h3 h4)
  rw [ls_len] at this
  exact this
theorem rel_gr {ρ : Rho} {H : OH} {X : Nat → Prop} {w : World} {G : List (List Int)} {v : Value} (b : Bool) (h : Rep X w (.sl (ls (fR fI) G)) v) : (grT G b).rel ρ H X w (.tuple #[v, .bool b]) := by
  refine ⟨#[v, .bool b], rfl, rfl, fun j c cs hj => ?_⟩
  match j, hj with
  | 0, hj =>
    simp at hj
    obtain ⟨rfl, rfl⟩ := hj
    exact ⟨_, rfl, .inr ⟨rfl, _, rfl, h⟩⟩
  | 1, hj =>
    simp at hj
    obtain ⟨rfl, rfl⟩ := hj
    exact ⟨_, rfl, .inr ⟨rfl, _, rfl, Rep.raw _ rfl⟩⟩
  | j + 2, hj => simp at hj
def suO (M l : List (List Int)) : Option (List (Int × List Int)) := if isReducedM M then itemsO M l else none
def suL (M l : List (List Int)) : List (List Int) := match suO M l with | none => [] | some ks => (uniqP ks).map Prod.snd
def suB (M l : List (List Int)) : Bool := (suO M l).isSome
theorem suT_none {M l : List (List Int)} (h : suO M l = none) : grT (suL M l) (suB M l) = grT [] false := by simp [suL, suB, h]
theorem suT_some {M l : List (List Int)} {ks : List (Int × List Int)} (h : suO M l = some ks) : grT (suL M l) (suB M l) = grT ((uniqP ks).map Prod.snd) true := by simp [suL, suB, h]
theorem pSort_C (M l : List (List Int)) (hl : l.length ≤ 65536) : CallC Tryz.prog 11 [slI M, slI l] ⟨[], grT (suL M l) (suB M l)⟩ := by
  refine callC_extX (by kernel_rfl) fun X w vs hX hvs ha => ?_
  obtain ⟨v0, e0, r0⟩ := arg0 ha (j := 0) rfl
  obtain ⟨v1, e1, r1⟩ := arg0 ha (j := 1) rfl
  obtain ⟨A, c, rfl, hc, hm, hR⟩ := rep_rdM r0
  obtain ⟨B, d, rfl, hd, hlx, hB⟩ := rep_rdM r1
  obtain rfl : vs = #[.slice A M.length c, .slice B l.length d] := by
    apply Array.ext_getElem?
    intro j
    match j with
    | 0 => exact e0
    | 1 => exact e1
    | j + 2 => rw [Array.getElem?_eq_none (by simp at hvs; omega)]; rfl
  refine (sortUnique_new A B c d M l w hR hB hm hc hl).mono fun e w' ⟨h1, h2⟩ => ?_
  change SUX _ _ (suO M l) _ at h1
  cases hs : suO M l with
  | none =>
    rw [hs] at h1
    rw [suT_none hs]
    exact ⟨_, h1, fun _ _ _ _ => rel_gr _ (Rep.nil _ _), h2⟩
  | some ks =>
    rw [hs] at h1
    rw [suT_some hs]
    obtain ⟨A', h3, h4⟩ := h1
    exact ⟨_, h3, fun _ _ _ hY => rel_gr _ (newM_rep h4 hY), h2⟩
theorem rCompare_C (x y : List Int) : CallC Tryz.prog 16 [sl1 x, sl1 y] ⟨[], .raw (.int .i64 (cmpL x y))⟩ := by
  refine callC_ext (by kernel_rfl) fun X w vs hX hvs ha => ?_
  obtain ⟨v0, e0, r0⟩ := arg0 ha (j := 0) rfl
  obtain ⟨v1, e1, r1⟩ := arg0 ha (j := 1) rfl
  obtain ⟨A, c, rfl, hc, hl, hA⟩ := rep_rdI r0
  obtain ⟨B, d, rfl, hd, hlb, hB⟩ := rep_rdI r1
  obtain rfl : vs = #[.slice A x.length c, .slice B y.length d] := by
    apply Array.ext_getElem?
    intro j
    match j with
    | 0 => exact e0
    | 1 => exact e1
    | j + 2 => rw [Array.getElem?_eq_none (by simp at hvs; omega)]; rfl
  refine (refCompare_any A B c d x y w hA hB hl hlb).mono fun e w' ⟨h1, h2⟩ => ?_
  obtain ⟨n, rfl⟩ := h2
  exact ⟨_, h1, fun _ _ _ => Rep.raw _ rfl, (Ext.refl _).drewN n⟩
/-! Insertion. -/
def plc (x : Int × List Int) : List (Int × List Int) → Nat
  | [] => 0
  | a :: l => if ltP a x then plc x l + 1 else 0
theorem plc_le (x : Int × List Int) : ∀ l, plc x l ≤ l.length
  | [] => Nat.le_refl _
  | a :: l => by unfold plc; have := plc_le x l; split <;> simp <;> omega
theorem plc_lt (x : Int × List Int) : ∀ (l : List (Int × List Int)) (i : Nat) a, l[i]? = some a → i < plc x l → ltP a x
  | [], i, a, h, _ => by simp at h
  | b :: l, i, a, h, hi => by
    unfold plc at hi
    split at hi
    · cases i with
      | zero => simp at h; subst h; assumption
      | succ i => exact plc_lt x l i a (by simpa using h) (by omega)
    · omega
theorem plc_at (x : Int × List Int) : ∀ (l : List (Int × List Int)) a, l[plc x l]? = some a → ¬ ltP a x
  | [], a, h => by simp at h
  | b :: l, a, h => by
    unfold plc at h
    split at h
    · exact plc_at x l a (by simpa using h)
    · simp at h; subst h; assumption
theorem putP_plc (x : Int × List Int) : ∀ l : List (Int × List Int), putP x l = match l[plc x l]? with
    | some a => if ltP x a then l.take (plc x l) ++ x :: l.drop (plc x l) else l
    | none => l.take (plc x l) ++ x :: l.drop (plc x l)
  | [] => rfl
  | a :: l => by
    unfold putP plc
    split
    · rw [putP_plc x l]
      simp only [List.getElem?_cons_succ]
      cases l[plc x l]? with
      | none => rfl
      | some b => simp only; split <;> rfl
    · simp only [List.getElem?_cons_zero]
      split <;> rfl
theorem putP_len (x : Int × List Int) (l : List (Int × List Int)) : (putP x l).length ≤ l.length + 1 := by
  rw [putP_plc]
  have h1 : (l.take (plc x l) ++ x :: l.drop (plc x l)).length = l.length + 1 := by
    have := plc_le x l
    simp; omega
  split
  · split
    · omega
    · omega
  · omega
end Go.Proofs.YtobnpabndpmabaaGreat
namespace Go.Proofs.YtobnpabndpmabaaGreat
open Go.RowKit
def sgnK (x : List Int) : Int := match x.find? (fun c => c != 0) with | none => 0 | some c => if c < 0 then -1 else 1
theorem sgnK_snoc (x : List Int) (a : Int) : sgnK (x ++ [a]) = if sgnK x = 0 ∧ a ≠ 0 then (if a < 0 then -1 else 1) else sgnK x := by
  unfold sgnK
  rw [List.find?_append]
  cases h : x.find? (fun c => c != 0) with
  | none =>
    by_cases ha : a = 0
    · simp [ha]
    · simp [ha]
  | some c =>
    simp
    split <;> simp
theorem sgnK_cases (x : List Int) : sgnK x = 0 ∨ sgnK x = 1 ∨ sgnK x = -1 := by
  unfold sgnK
  split
  · simp
  · split <;> simp
theorem take_snoc_ {x : List Int} {k : Nat} {a : Int} (h : x[k]? = some a) : x.take (k + 1) = x.take k ++ [a] := by
  obtain ⟨h1, rfl⟩ := List.getElem?_eq_some_iff.1 h
  rw [List.take_succ_eq_append_getElem h1]
theorem canonS_sgn {x : List Int} (h : InB x = true) : canonS x = if sgnK x = 0 then none else some (x.map fun a => sgnK x * a) := by
  unfold canonS sgnK
  rw [h]
  cases hf : x.find? (fun c => c != 0) with
  | none => simp
  | some c =>
    simp only [if_true]
    by_cases hc : c < 0
    · simp [hc]
    · simp [hc]
def cnL (x : List Int) : List Int := x.map fun a => sgnK x * a
theorem sgnK_zero {x : List Int} : sgnK x = 0 ↔ ∀ c ∈ x, c = 0 := by
  unfold sgnK
  split
  · rename_i h
    rw [List.find?_eq_none] at h
    exact ⟨fun _ c hc => by simpa using h c hc, fun _ => rfl⟩
  · rename_i c h
    have h1 := List.find?_some h
    have h2 := List.mem_of_find?_eq_some h
    constructor
    · intro hh; split at hh <;> cases hh
    · intro hh; have := hh c h2; simp [this] at h1
theorem sgnK_map {x : List Int} {s : Int} (hs : s = 1 ∨ s = -1) : sgnK (x.map fun a => s * a) = s * sgnK x := by
  unfold sgnK
  rw [List.find?_map]
  have e : ((fun c : Int => c != 0) ∘ fun a => s * a) = fun c : Int => c != 0 := by
    funext c
    simp only [Function.comp]
    rw [Bool.eq_iff_iff]
    simp only [bne_iff_ne, ne_eq]
    rcases hs with rfl | rfl <;> omega
  rw [e]
  cases h : x.find? (fun c => c != 0) with
  | none => simp
  | some c =>
    have h1 := List.find?_some h
    simp only [Option.map_some]
    have hc : c ≠ 0 := by simpa using h1
    rcases hs with rfl | rfl
    · simp
    · by_cases h0 : c < 0
      · rw [if_neg (by omega), if_pos h0]; rfl
      · rw [if_pos (by omega), if_neg h0]; rfl
theorem cnL_map {x : List Int} {s : Int} (hs : s = 1 ∨ s = -1) : cnL (x.map fun a => s * a) = cnL x := by
  unfold cnL
  rw [sgnK_map hs, List.map_map]
  refine List.map_congr_left fun a _ => ?_
  show s * sgnK x * (s * a) = _
  rcases hs with rfl | rfl <;> grind
theorem cnL_cnL {x : List Int} (h : sgnK x ≠ 0) : cnL (cnL x) = cnL x := by
  rcases sgnK_cases x with h1 | h1 | h1
  · exact absurd h1 h
  · exact cnL_map (.inl h1)
  · exact cnL_map (.inr h1)
theorem InB_map {x : List Int} {s : Int} (hs : s = 1 ∨ s = -1) (h : InB x = true) : InB (x.map fun a => s * a) = true := by
  unfold InB at *
  simp only [List.all_eq_true, Bool.and_eq_true, decide_eq_true_eq, List.mem_map] at *
  rintro _ ⟨c, hc, rfl⟩
  have := h c hc
  rcases hs with rfl | rfl <;> omega
end Go.Proofs.YtobnpabndpmabaaGreat
namespace Go.Proofs.YtobnpabndpmabaaGreat
open Go.RowKit
structure GoodV (M : List (List Int)) (x : List Int) : Prop where
  fit : FitB M.length x = true
  bd : ∀ c ∈ x, -65536 ≤ c ∧ c ≤ 65536
  nz : sgnK x ≠ 0
def qN (M : List (List Int)) (x : List Int) : Int := BF M.length (ent M) (fun i => x.getD i 0) (fun i => x.getD i 0)
theorem getD_bdM {x : List Int} {B : Int} (h0 : 0 ≤ B) (h : ∀ c ∈ x, -B ≤ c ∧ c ≤ B) (i : Nat) : -B ≤ x.getD i 0 ∧ x.getD i 0 ≤ B := by
  rw [List.getD_eq_getElem?_getD]
  cases hx : x[i]? with
  | none => simp; omega
  | some c => exact h c (List.mem_of_getElem? hx)
theorem ent_bd {M : List (List Int)} (hM : isReducedM M = true) : ∀ i j, i < M.length → j < M.length → -262144 ≤ ent M i j ∧ ent M i j ≤ 262144 := by
  obtain ⟨h1, h8, hsq, hr⟩ := (isReducedM_iff M).1 hM
  intro i j hi hj
  have := ent_small h1 h8 hr i hi j hj
  omega
theorem qN_bd {M : List (List Int)} {x : List Int} (hM : isReducedM M = true) (h : ∀ c ∈ x, -65536 ≤ c ∧ c ≤ 65536) : -4611686018427387904 ≤ qN M x ∧ qN M x ≤ 4611686018427387904 := by
  obtain ⟨h1, h8, _⟩ := (isReducedM_iff M).1 hM
  have hx := fun i => getD_bdM (B := 65536) (by omega) h i
  have := BF_bd (n := M.length) (f := ent M) (x := fun i => x.getD i 0) (y := fun i => x.getD i 0) (X := 65536) (F := 262144) (Y := 65536) (fun i _ => hx i) (ent_bd hM) (fun i _ => hx i) (by omega) (by omega) (by omega)
  have hn : (M.length : Int) ≤ 8 := by omega
  have hn0 : (0 : Int) ≤ M.length := by omega
  have e : (M.length : Int) * ((M.length : Int) * (65536 * 262144 * 65536)) ≤ 8 * (8 * (65536 * 262144 * 65536)) := Int.mul_le_mul hn (by omega) (by omega) (by omega)
  have e' : (M.length : Int) * (M.length : Int) ≤ 64 := by
    have := Int.mul_le_mul hn hn hn0 (by omega : (0 : Int) ≤ 8)
    omega
  constructor
  · refine Int.le_trans ?_ this.1; generalize (M.length : Int) = m at *; grind
  · refine Int.le_trans this.2 ?_; generalize (M.length : Int) = m at *; grind
theorem item_good {M : List (List Int)} {x : List Int} (hM : isReducedM M = true) (h : GoodV M x) : itemO M x = some (qN M x, cnL x) := by
  have hb := qN_bd hM h.bd
  have e := inn_BF hM h.fit h.fit
  unfold itemO
  rw [if_pos h.fit]
  have e1 : normO M x = some (qN M x) := by
    unfold normO
    rw [e]
    exact if_pos hb
  have e2 : canonS x = some (cnL x) := by
    rw [canonS_sgn (FitB_iff.1 h.fit).2, if_neg h.nz]; rfl
  rw [e1, e2]
theorem good_map {M : List (List Int)} {x : List Int} {s : Int} (hs : s = 1 ∨ s = -1) (h : GoodV M x) : GoodV M (x.map fun a => s * a) := by
  obtain ⟨h1, h2⟩ := FitB_iff.1 h.fit
  refine ⟨FitB_iff.2 ⟨by simpa using h1, InB_map hs h2⟩, fun c hc => ?_, ?_⟩
  · obtain ⟨a, ha, rfl⟩ := List.mem_map.1 hc
    have := h.bd a ha
    rcases hs with rfl | rfl <;> omega
  · rw [sgnK_map hs]
    have := h.nz
    rcases hs with rfl | rfl <;> omega
theorem qN_map {M : List (List Int)} {x : List Int} {s : Int} (hs : s = 1 ∨ s = -1) : qN M (x.map fun a => s * a) = qN M x := by
  unfold qN BF
  refine smF_congr _ fun i _ => ?_
  have e : ∀ i, (x.map fun a => s * a).getD i 0 = s * x.getD i 0 := fun i => by
    rw [List.getD_eq_getElem?_getD, List.getD_eq_getElem?_getD, List.getElem?_map]
    cases x[i]? <;> simp
  simp only [e]
  have e2 : smF (fun j => ent M i j * (s * x.getD j 0)) M.length = s * smF (fun j => ent M i j * x.getD j 0) M.length := by
    rw [← smF_mul]
    exact smF_congr _ fun j _ => by grind
  rw [e2]
  rcases hs with rfl | rfl <;> grind
theorem good_cn {M : List (List Int)} {x : List Int} (h : GoodV M x) : GoodV M (cnL x) := by
  rcases sgnK_cases x with h1 | h1 | h1
  · exact absurd h1 h.nz
  · exact good_map (.inl h1) h
  · exact good_map (.inr h1) h
theorem qN_cn {M : List (List Int)} {x : List Int} (h : GoodV M x) : qN M (cnL x) = qN M x := by
  rcases sgnK_cases x with h1 | h1 | h1
  · exact absurd h1 h.nz
  · exact qN_map (.inl h1)
  · exact qN_map (.inr h1)
def itV (M : List (List Int)) (x : List Int) : Int × List Int := (qN M x, cnL x)
theorem itV_map {M : List (List Int)} {x : List Int} {s : Int} (hs : s = 1 ∨ s = -1) : itV M (x.map fun a => s * a) = itV M x := by
  unfold itV; rw [qN_map hs, cnL_map hs]
theorem itV_cn {M : List (List Int)} {x : List Int} (h : GoodV M x) : itV M (cnL x) = itV M x := by
  unfold itV; rw [qN_cn h, cnL_cnL h.nz]
theorem items_good {M : List (List Int)} (hM : isReducedM M = true) : ∀ {l : List (List Int)}, (∀ x ∈ l, GoodV M x) → itemsO M l = some (l.map (itV M))
  | [], _ => rfl
  | x :: l, h => by
    unfold itemsO
    rw [item_good hM (h x (by simp)), items_good hM (fun y hy => h y (by simp [hy]))]; rfl
def srt (M l : List (List Int)) : List (Int × List Int) := uniqP (l.map (itV M))
theorem su_good {M l : List (List Int)} (hM : isReducedM M = true) (h : ∀ x ∈ l, GoodV M x) : grT (suL M l) (suB M l) = grT ((srt M l).map Prod.snd) true :=
  suT_some (by unfold suO; rw [hM]; exact items_good hM h)
theorem srt_mem {M l : List (List Int)} {y : Int × List Int} : y ∈ srt M l ↔ ∃ x ∈ l, itV M x = y := by
  unfold srt; rw [uniqP_mem, List.mem_map]
theorem srt_ext {M l m : List (List Int)} (h : ∀ y, (∃ x ∈ l, itV M x = y) ↔ ∃ x ∈ m, itV M x = y) : srt M l = srt M m :=
  asc_ext (uniqP_asc _) (uniqP_asc _) fun y => by
    show y ∈ srt M l ↔ y ∈ srt M m
    rw [srt_mem, srt_mem]; exact h y
theorem srt_good {M l : List (List Int)} (h : ∀ x ∈ l, GoodV M x) : ∀ y ∈ srt M l, GoodV M y.2 ∧ itV M y.2 = y := fun y hy => by
  obtain ⟨x, hx, rfl⟩ := srt_mem.1 hy
  exact ⟨good_cn (h x hx), itV_cn (h x hx)⟩
theorem srt_srt {M l : List (List Int)} (h : ∀ x ∈ l, GoodV M x) : srt M ((srt M l).map Prod.snd) = srt M l := by
  refine asc_ext (uniqP_asc _) (uniqP_asc _) fun y => ?_
  show y ∈ srt M _ ↔ y ∈ srt M l
  rw [srt_mem]
  constructor
  · rintro ⟨x, hx, rfl⟩
    obtain ⟨z, hz, rfl⟩ := List.mem_map.1 hx
    rw [(srt_good h z hz).2]; exact hz
  · intro hy
    exact ⟨y.2, List.mem_map.2 ⟨y, hy, rfl⟩, (srt_good h y hy).2⟩
theorem fold_len : ∀ (l acc : List (Int × List Int)), (l.foldl (fun acc x => putP x acc) acc).length ≤ l.length + acc.length
  | [], acc => by simp
  | x :: l, acc => by
    have := fold_len l (putP x acc)
    have := putP_len x acc
    simp only [List.foldl_cons, List.length_cons]; omega
theorem srt_len (M l : List (List Int)) : (srt M l).length ≤ l.length := by
  have := fold_len (l.map (itV M)) []
  simpa [srt, uniqP] using this
theorem srt_nil {M l : List (List Int)} : (srt M l).length = 0 ↔ l.length = 0 := by
  constructor
  · intro h
    cases l with
    | nil => rfl
    | cons x l =>
      have : itV M x ∈ srt M (x :: l) := srt_mem.2 ⟨x, by simp, rfl⟩
      rw [List.length_eq_zero_iff.1 h] at this
      simp at this
  · intro h; have := srt_len M l; omega
theorem srt_lt {M l : List (List Int)} {i : Nat} {a b : Int × List Int} (ha : (srt M l)[i]? = some a) (hb : (srt M l)[i + 1]? = some b) : ltP a b := by
  have h := uniqP_asc (l.map (itV M))
  unfold Asc at h
  rw [List.pairwise_iff_getElem] at h
  obtain ⟨h1, h2⟩ := List.getElem?_eq_some_iff.1 ha
  obtain ⟨h3, h4⟩ := List.getElem?_eq_some_iff.1 hb
  have := h i (i + 1) h1 h3 (by omega)
  rw [← h2, ← h4]; exact this
theorem inn_good {M : List (List Int)} {x : List Int} (hM : isReducedM M = true) (h : GoodV M x) : innT M x x = tvI (qN M x) true := by
  have hb := qN_bd hM h.bd
  have e := inn_BF hM h.fit h.fit
  unfold innT
  rw [if_pos ⟨by unfold validM; rw [hM, h.fit]; rfl, h.fit⟩]
  unfold wiT
  rw [e]
  exact if_pos hb
end Go.Proofs.YtobnpabndpmabaaGreat
namespace Go.Proofs.YtobnpabndpmabaaGreat
open Go.RowKit
def cont (l : List Int) : Nat := l.foldl (fun d c => Nat.gcd d c.natAbs) 0
theorem cont_snoc (l : List Int) (c : Int) : cont (l ++ [c]) = Nat.gcd (cont l) c.natAbs := by simp [cont]
theorem cont_zero (l : List Int) : cont l = 0 ↔ ∀ c ∈ l, c = 0 := by
  have : ∀ (l : List Int) (d : Nat), l.foldl (fun d c => Nat.gcd d c.natAbs) d = 0 ↔ d = 0 ∧ ∀ c ∈ l, c = 0 := by
    intro l
    induction l with
    | nil => simp
    | cons a l ih =>
      intro d
      rw [List.foldl_cons, ih, Nat.gcd_eq_zero_iff, Int.natAbs_eq_zero]
      simp [and_assoc]
  rw [cont, this]; simp
theorem gcd_bd {a b B : Nat} (ha : a ≤ B) (hb : b ≤ B) : Nat.gcd a b ≤ B := by
  rcases Nat.eq_zero_or_pos a with h | h
  · rw [h, Nat.gcd_zero_left]; exact hb
  · exact Nat.le_trans (Nat.gcd_le_left _ h) ha
theorem cont_bd {l : List Int} (h : ∀ z ∈ l, I64 z) : cont l ≤ 9223372036854775808 := by
  have : ∀ (l : List Int) (d : Nat), d ≤ 9223372036854775808 → (∀ z ∈ l, I64 z) → l.foldl (fun d c => Nat.gcd d c.natAbs) d ≤ 9223372036854775808 := by
    intro l
    induction l with
    | nil => intro d hd _; exact hd
    | cons a l ih =>
      intro d hd h
      rw [List.foldl_cons]
      refine ih _ (gcd_bd hd ?_) fun z hz => h z (by simp [hz])
      have := h a (by simp)
      have h1 := this.1; have h2 := this.2
      omega
  exact this l 0 (by omega) h
structure EuG (g : Nat) where
  d : Nat
  a : Nat
  hg : Nat.gcd d a = g
  hd : d ≤ 9223372036854775808
  ha : a ≤ 9223372036854775808
set_option maxRecDepth 100000 in
set_option maxHeartbeats 16000000 in
theorem Content_C (x : List Int) (hx : ∀ z ∈ x, I64 z) (hl : x.length ≤ 1000000) : CallC Tryz.prog 14 [sl1 x] ⟨[], .raw (.int .u64 (cont x : Int))⟩ := by
  refine callC_of Tryz.func14 rfl (by kernel_rfl) ?_; rw [Tryz.ntmps14]
  (refine WpA_sreg [] [] (by simp) fun K hK => ?_; simp (disch := omega) only [kc, prep1, sl1, List.replicate, ofConst, Value.oneCell']; (with_reducible refine hK _ ?_))
  (refine WpA_sreg [] [] (by simp) fun K hK => ?_; simp (disch := omega) only [kc, prep1, ofConst, Value.oneCell']; (with_reducible refine hK _ ?_))
  (refine WpA_seq (WpA_sreg [] [] (by simp) fun K hK => ?_); simp (disch := omega) only [kc, prep1, Nat.reduceAdd, opS_len, effR, ty_slice29, ls_len, ofConst, Value.oneCell']; (with_reducible refine hK _ ?_))
  refine WpA_forb (G := FiG x.length) (fun g => ⟨[jk, jk, jk, .raw (.int .u64 (cont (x.take g.i) : Int)), jk, jk, jk, sl1 x, .raw (.int .i64 (x.length : Int)), .raw (.int .i64 (g.i : Int)), jk, jk, jk, jk, jk, jk, jk, jk, jk, jk, jk, jk, jk, jk, jk, jk, jk], Hm []⟩) (fun g => x.length - g.i) ⟨0, by omega⟩ ?_ ?_
  · refine Weak_sub trivial ?_
    simp [wkL, okTV, okAV, cont]
  · rintro ⟨i, hi⟩
    simp only
    by_cases hm : i < x.length
    · obtain ⟨z, hz⟩ := getElem?_of_lt hm
      obtain ⟨z1, z2⟩ := hx z (List.mem_of_getElem? hz)
      have hbd := cont_bd (l := x.take i) fun z hz => hx z (List.mem_of_mem_take hz)
      have ex : cont (x.take (i + 1)) = Nat.gcd (cont (x.take i)) z.natAbs := by
        rw [List.take_add_one, hz, ← cont_snoc]; rfl
      generalize cont (x.take i) = d0 at *
      (refine WpA_sreg [] [] (by simp) fun K hK => ?_; simp (disch := omega) only [kc, prep1, sl1, Hm, effM, evBin, decT]; (with_reducible refine hK _ ?_))
      refine WpA_seq (WpA_cond rfl (fun _ => WpA_skip ?_) (fun h => by simp at h <;> omega))
      refine WpA_seq (WpA_block ?_)
      (refine WpA_sreg [] [] (by simp) fun K hK => ?_; simp (disch := omega) only [kc, prep1, Nat.reduceAdd, opS_indexAddr, effR, natOf_pos, ty_slice29, ls_get, hz, fI, ty_sz2, packT, ty_agg2]; (with_reducible refine hK _ ?_))
      (refine WpA_sreg [] [] (by simp) fun K hK => ?_; simp (disch := omega) only [kc, prep1, Nat.reduceAdd, opS_conv, effM, Tryz.underlying2, ty_int35]; (with_reducible refine hK _ ?_))
      refine WpA_seq (WpA_cut (S := ⟨[jk, jk, jk, .raw (.int .u64 (d0 : Int)), jk, jk, .raw (.int .u64 (z.natAbs : Int)), sl1 x, .raw (.int .i64 (x.length : Int)), .raw (.int .i64 (i : Int)), jk, jk, jk, jk, jk, jk, jk, jk, jk, jk, jk, jk, jk, jk, jk, jk, jk], Hm []⟩) ?_ ?_)
      · by_cases hn : z < 0
        · have e1 : IntKind.u64.wrap (0 - IntKind.u64.wrap z) = ((z.natAbs : Nat) : Int) := by rw [IntKind.wrap_u64, IntKind.wrap_u64]; omega
          (refine WpA_sreg [] [] (by simp) fun K hK => ?_; simp (disch := omega) only [kc, prep1, effM, ofConst, Value.oneCell', evBin, decT]; (with_reducible refine hK _ ?_))
          refine WpA_cond rfl (fun _ => ?_) (fun h => by simp at h <;> omega)
          ((refine WpA_lreg [] [] (by simp) fun K hK => ?_); simp (disch := omega) only [kc, prep1, Nat.reduceAdd, opS_un, effM, evUn, e1]; (with_reducible refine hK _ ?_))
          refine Weak_sub trivial ?_
          simp [wkL, okTV, okAV]
        · have e1 : ((z.natAbs : Nat) : Int) = z := by omega
          (refine WpA_sreg [] [] (by simp) fun K hK => ?_; simp (disch := omega) only [kc, prep1, wrapU, effM, ofConst, Value.oneCell', evBin, decF]; (with_reducible refine hK _ ?_))
          refine WpA_cond rfl (fun h => by simp at h <;> omega) (fun _ => WpA_skip ?_)
          show Weak _ _
          rw [e1]
          refine Weak_sub trivial ?_
          simp [wkL, okTV, okAV]
      · refine WpA_forb (G := EuG (Nat.gcd d0 z.natAbs)) (fun g => ⟨[jk, jk, jk, .raw (.int .u64 (g.d : Int)), jk, jk, .raw (.int .u64 (g.a : Int)), sl1 x, .raw (.int .i64 (x.length : Int)), .raw (.int .i64 (i : Int)), jk, jk, jk, jk, jk, jk, jk, jk, jk, jk, jk, jk, jk, jk, jk, jk, jk], Hm []⟩) (fun g => g.a) ⟨d0, z.natAbs, rfl, hbd, by omega⟩ (Weak.refl _) ?_
        rintro ⟨d, a, hg, hd, ha⟩
        simp only
        by_cases h0 : a = 0
        · subst h0
          rw [Nat.gcd_zero_right] at hg
          (refine WpA_seq (WpA_sreg [] [] (by simp) fun K hK => ?_); simp (disch := omega) only [kc, prep1, sl1, Hm, effM, ofConst, Value.oneCell', evBin, decT]; (with_reducible refine hK _ ?_))
          refine WpA_cond rfl (fun h => by simp at h <;> omega) (fun _ => WpA_exit ?_)
          show WpA _ _ _ _
          ((refine WpA_lreg [] [] (by simp) fun K hK => ?_); simp (disch := omega) only [kc, prep1, effM, ofConst, Value.oneCell', evBin, wrapI]; (with_reducible refine hK _ ?_))
          refine ⟨⟨i + 1, by omega⟩, by simp only; omega, ?_⟩
          simp only
          rw [ex, ← hg]
          refine Weak_sub trivial ?_
          simp [wkL, okTV, okAV]
        · have e2 : Int.tmod (d : Int) (a : Int) = ((d % a : Nat) : Int) := (Int.ofNat_tmod d a).symm
          have e3 := Nat.mod_lt d (show 0 < a by omega)
          (refine WpA_seq (WpA_sreg [] [] (by simp) fun K hK => ?_); simp (disch := omega) only [kc, prep1, sl1, Hm, effM, ofConst, Value.oneCell', evBin, decF, Bool.not_false]; (with_reducible refine hK _ ?_))
          refine WpA_cond rfl (fun _ => WpA_skip ?_) (fun h => by simp at h <;> omega)
          show WpA _ _ _ _
          refine WpA_block ?_
          ((refine WpA_ldraw mixedA [] [] (by kernel_rfl) (by simp) fun K hK => ?_); simp (disch := omega) only [kc, prep1, Nat.reduceAdd, effM, evBin, e2, ifT]; (with_reducible refine hK _ ?_))
          refine ⟨⟨a, d % a, ?_, ha, by omega⟩, by simp only; omega, Weak_sub trivial ?_⟩
          · rw [← hg, Nat.gcd_comm d a, Nat.gcd_rec a d, Nat.gcd_comm]
          · simp [wkL, okTV, okAV]
    · have hin : i = x.length := by omega
      subst hin
      (refine WpA_sreg [] [] (by simp) fun K hK => ?_; simp (disch := omega) only [kc, prep1, sl1, Hm, effM, evBin, decF]; (with_reducible refine hK _ ?_))
      refine WpA_seq (WpA_cond rfl (fun h => by simp at h <;> omega) (fun _ => WpA_exit ?_))
      show WpA _ _ _ _
      rw [List.take_of_length_le (Nat.le_refl _)]
      (refine WpA_sreg [] [] (by simp) fun K hK => ?_; simp (disch := omega) only [kc, prep1]; (with_reducible refine hK _ ?_))
      (refine WpA_ret ⟨.inr rfl, ret_now rfl ?_ rfl⟩; simp (disch := omega) only [resA, Tryz.results14, resOne, List.getElem?_cons_succ, List.getElem?_cons_zero])
end Go.Proofs.YtobnpabndpmabaaGreat
namespace Go.Proofs.YtobnpabndpmabaaGreat
open Go.RowKit
def rnAV (a e : Nat) : AV → AV
  | .sl b r off len => .sl (sw a e b) r off len
  | .ptr b r i j => .ptr (sw a e b) r i j
  | x => x
def rnTV (a e : Nat) : TV → TV
  | .one x => .one (rnAV a e x)
  | .agg cs => .agg (cs.map (rnAV a e))
  | .fn f cs => .fn f (cs.map (rnAV a e))
  | .tup ts => .tup (ts.map fun t => (t.1, t.2.map (rnAV a e)))
def rnO (a e : Nat) (o : OObj) : OObj := { o with elems := o.elems.map (List.map (rnAV a e)) }
def rnH (a e : Nat) (H : OH) : OH := fun b => (H (sw a e b)).map (rnO a e)
theorem Weak_rn {s : AS} (a e : Nat) : Weak s ⟨s.tmps.map (rnTV a e), rnH a e s.H⟩ := by
  rintro w0 O X act w ⟨h1, hsz, ρ, hinv, htm⟩
  have hof : ∀ (b r : Nat) o, (s.H b)[r]? = some o → (rnH a e s.H (sw a e b))[r]? = some (rnO a e o) := fun b r o ho => by
    show ((s.H (sw a e (sw a e b))).map (rnO a e))[r]? = _
    rw [sw_sw, List.getElem?_map, ho]; rfl
  have hget : ∀ (b r : Nat) o', (rnH a e s.H b)[r]? = some o' → ∃ o : OObj, (s.H (sw a e b))[r]? = some o ∧ o' = rnO a e o := fun b r o' ho => by
    have ho : ((s.H (sw a e b)).map (rnO a e))[r]? = some o' := ho
    rw [List.getElem?_map] at ho
    obtain ⟨o, g1, g2⟩ := Option.map_eq_some_iff.1 ho
    exact ⟨o, g1, g2.symm⟩
  let ρ' : Rho := fun b r => ρ (sw a e b) r
  have hρ : ∀ b r, ρ' (sw a e b) r = ρ b r := fun b r => by show ρ _ _ = _; rw [sw_sw]
  have hXo : Xo X ρ' (rnH a e s.H) = Xo X ρ s.H := by
    funext b
    apply propext
    constructor
    · rintro (h | ⟨x, r, o, c, g1, g2⟩)
      · exact .inl h
      · obtain ⟨o', g3, _⟩ := hget x r o g1
        exact .inr ⟨_, _, o', c, g3, g2⟩
    · rintro (h | ⟨x, r, o, c, g1, g2⟩)
      · exact .inl h
      · exact .inr ⟨_, _, _, c, hof x r o g1, by rw [hρ]; exact g2⟩
  have hav : ∀ (Y : Nat → Prop) x v, AV.rel ρ s.H Y w x v → AV.rel ρ' (rnH a e s.H) Y w (rnAV a e x) v := fun Y x v h => by
    cases x with
    | p x => exact h
    | junk => trivial
    | sl b r off len =>
      obtain ⟨o, g1, g2, g3⟩ := h
      exact ⟨_, hof b r o g1, by simpa [rnO] using g2, by rw [hρ]; exact g3⟩
    | ptr b r i j =>
      obtain ⟨o, b', c, g1, g2, g3, g4⟩ := h
      exact ⟨_, b', c, hof b r o g1, by rw [hρ]; exact g2, by simpa [rnO] using g3, g4⟩
  have hagg : ∀ (Y : Nat → Prop) cs v, aggRel ρ s.H Y w cs v → aggRel ρ' (rnH a e s.H) Y w (cs.map (rnAV a e)) v := fun Y cs v ⟨vs, g1, g2, g3⟩ => by
    refine ⟨vs, g1, by simpa using g2, fun j x hx => ?_⟩
    rw [List.getElem?_map] at hx
    obtain ⟨y, hy, rfl⟩ := Option.map_eq_some_iff.1 hx
    obtain ⟨u, u1, u2, u3⟩ := g3 j y hy
    exact ⟨u, u1, u2, hav Y y u u3⟩
  refine ⟨h1, by simpa using hsz, ρ', ⟨hinv.keep, fun b r o' ho => ?_, fun b r b' r' o o' x c c' ho ho' hb hb' => ?_, fun b r o x c ho hb => ?_, hinv.bar, fun b r o' ho => ?_⟩, fun t x hx => ?_⟩
  · obtain ⟨o, g1, rfl⟩ := hget b r o' ho
    have hob := hinv.objs _ _ o g1
    show objRel ρ' (rnH a e s.H) (Xo X ρ' (rnH a e s.H)) w b r (rnO a e o)
    rw [hXo]
    obtain ⟨q1, q2, q3⟩ := hob
    refine ⟨fun z he => ?_, q2, ?_⟩
    · simp only [rnO, List.mem_map] at he
      obtain ⟨e', he', rfl⟩ := he
      simp only [List.length_map, rnO]
      exact q1 e' he'
    · show match ρ (sw a e b) r with | none => _ | some (b, c) => _
      cases hr : ρ (sw a e b) r with
      | none => rw [hr] at q3; simp only at q3 ⊢; simp [rnO, q3]
      | some bc =>
        obtain ⟨b2, c⟩ := bc
        rw [hr] at q3
        obtain ⟨cells, p1, p2, p3, p4, p5⟩ := q3
        refine ⟨cells, p1, p2, by simpa [rnO] using p3, p4, fun i z j x hi hj => ?_⟩
        simp only [rnO, List.getElem?_map] at hi
        obtain ⟨e', he', rfl⟩ := Option.map_eq_some_iff.1 hi
        simp only [List.getElem?_map] at hj
        obtain ⟨x', hx', rfl⟩ := Option.map_eq_some_iff.1 hj
        obtain ⟨v, v1, v2, v3⟩ := p5 i e' j x' he' hx'
        exact ⟨v, v1, v2, hav _ _ _ v3⟩
  · obtain ⟨o1, g1, _⟩ := hget b r o ho
    obtain ⟨o2, g2, _⟩ := hget b' r' o' ho'
    obtain ⟨e1, e2⟩ := hinv.inj _ _ _ _ o1 o2 x c c' g1 g2 hb hb'
    refine ⟨?_, e2⟩
    rw [← sw_sw a e b, e1, sw_sw]
  · obtain ⟨o1, g1, _⟩ := hget b r o ho
    exact hinv.old _ _ o1 x c g1 hb
  · obtain ⟨o, g1, rfl⟩ := hget b r o' ho
    have hs := hinv.self _ _ o g1
    intro z he x hx
    simp only [rnO, List.mem_map] at he
    obtain ⟨e', he', rfl⟩ := he
    simp only [List.mem_map] at hx
    obtain ⟨x', hx', rfl⟩ := hx
    have := hs e' he' x' hx'
    cases x' with
    | sl q _ _ _ => have this : q = sw a e b := this; subst this; exact sw_sw a e b
    | ptr q _ _ _ => have this : q = sw a e b := this; subst this; exact sw_sw a e b
    | p q => trivial
    | junk => trivial
  · simp only [List.getElem?_map] at hx
    obtain ⟨y, hy, rfl⟩ := Option.map_eq_some_iff.1 hx
    obtain ⟨v, v1, v2⟩ := htm t y hy
    refine ⟨v, v1, ?_⟩
    show TV.rel ρ' (rnH a e s.H) (Xo X ρ' (rnH a e s.H)) w (rnTV a e y) v
    rw [hXo]
    cases y with
    | one x => exact hav _ x v v2
    | agg cs => exact hagg _ cs v v2
    | fn f cs => obtain ⟨u, h1, h2⟩ := v2; exact ⟨u, hagg _ cs u h1, h2⟩
    | tup ts =>
      obtain ⟨vs, g1, g2, g3⟩ := v2
      refine ⟨vs, g1, by simpa using g2, fun j c cs hj => ?_⟩
      rw [List.getElem?_map] at hj
      obtain ⟨z, hz, hzz⟩ := Option.map_eq_some_iff.1 hj
      obtain ⟨c', cs'⟩ := z
      simp at hzz
      obtain ⟨rfl, rfl⟩ := hzz
      obtain ⟨u, u1, u2⟩ := g3 j c' cs' hz
      refine ⟨u, u1, ?_⟩
      rcases u2 with ⟨u2, u3⟩ | ⟨u2, q', rfl, u4⟩
      · exact .inl ⟨u2, hagg _ _ _ u3⟩
      · exact .inr ⟨u2, _, rfl, hav _ _ _ u4⟩
end Go.Proofs.YtobnpabndpmabaaGreat
namespace Go.Proofs.YtobnpabndpmabaaGreat
open Go.RowKit
theorem lc_rn {α : Type} (f : α → List PV) (l : List α) (a e : Nat) : (lc f l).map (List.map (rnAV a e)) = lc f l := by
  simp only [lc, List.map_map]
  refine List.map_congr_left fun x _ => ?_
  simp only [Function.comp, List.map_map]
  exact List.map_congr_left fun y _ => rfl
def av (n : Nat) (c : List Int) : List Int := if cont (rowF n (vcF c)) = 0 then (rowF n (vcF c)).set 0 1 else rowF n (vcF c)
theorem av_len (n : Nat) (c : List Int) : (av n c).length = n := by unfold av; split <;> simp [rowF_len]
theorem row_bd {n : Nat} {c : List Int} (hc : I8 c) : ∀ z ∈ rowF n (vcF c), -128 ≤ z ∧ z ≤ 127 := fun z hz => by
  obtain ⟨i, _, rfl⟩ := List.mem_map.1 hz
  exact vc_bd hc i
theorem av_bd {n : Nat} {c : List Int} (hc : I8 c) : ∀ z ∈ av n c, -128 ≤ z ∧ z ≤ 127 := fun z hz => by
  unfold av at hz
  split at hz
  · rcases List.mem_or_eq_of_mem_set hz with h | rfl
    · exact row_bd hc z h
    · omega
  · exact row_bd hc z hz
theorem av_nz {n : Nat} {c : List Int} (hn : 1 ≤ n) : sgnK (av n c) ≠ 0 := by
  rw [Ne, sgnK_zero]
  intro h
  unfold av at h
  split at h
  · have : (1 : Int) ∈ (rowF n (vcF c)).set 0 1 := List.mem_iff_getElem?.2 ⟨0, by rw [List.getElem?_set_self (by rw [rowF_len]; omega)]⟩
    have := h 1 this
    omega
  · rename_i h0
    exact h0 ((cont_zero _).2 h)
theorem av_good {M : List (List Int)} {c : List Int} (hn : 1 ≤ M.length) (hc : I8 c) : GoodV M (av M.length c) := by
  have hb := av_bd (n := M.length) hc
  refine ⟨FitB_iff.2 ⟨av_len _ _, ?_⟩, fun z hz => by have := hb z hz; omega, av_nz hn⟩
  unfold InB
  simp only [List.all_eq_true, Bool.and_eq_true, decide_eq_true_eq]
  intro z hz
  have := hb z hz
  omega
def sgI (turn i : Nat) : Int := if (turn + i) % 2 = 0 then -1 else 1
theorem sgI_cases (turn i : Nat) : sgI turn i = 1 ∨ sgI turn i = -1 := by unfold sgI; split <;> simp
def bvP (s : Int) (a : List Int) (j : Nat) : List Int := (a.take j).map (fun z => s * z) ++ a.drop j
theorem bvP_len (s : Int) (a : List Int) (j : Nat) : (bvP s a j).length = a.length := by
  simp only [bvP, List.length_append, List.length_map, List.length_take, List.length_drop]; omega
theorem bvP_zero (s : Int) (a : List Int) : bvP s a 0 = a := by simp [bvP]
theorem bvP_one (a : List Int) (j : Nat) : bvP 1 a j = a := by simp [bvP]
theorem bvP_end (s : Int) (a : List Int) : bvP s a a.length = a.map fun z => s * z := by simp [bvP]
theorem bvP_get {s : Int} {a : List Int} {j : Nat} {z : Int} (h : a[j]? = some z) : (bvP s a j)[j]? = some z := by
  have hj := (List.getElem?_eq_some_iff.1 h).1
  unfold bvP
  rw [List.getElem?_append_right (by simp; omega), List.getElem?_drop]
  simp only [List.length_map, List.length_take]
  rw [show j + (j - min j a.length) = j by omega]; exact h
theorem bvP_set {a : List Int} {j : Nat} {z : Int} (h : a[j]? = some z) : (bvP (-1) a j).set j (0 - z) = bvP (-1) a (j + 1) := by
  have hj := (List.getElem?_eq_some_iff.1 h).1
  unfold bvP
  rw [List.set_append_right _ _ (by simp; omega), List.take_add_one, h, List.map_append, List.append_assoc]
  have hd : a.drop j = z :: a.drop (j + 1) := by
    obtain ⟨_, rfl⟩ := List.getElem?_eq_some_iff.1 h
    exact List.drop_eq_getElem_cons hj
  rw [hd]
  have e : j - ((a.take j).map fun z => -1 * z).length = 0 := by simp; omega
  rw [e]
  simp
def avL (n : Nat) (K : List (List Int)) (i : Nat) : List (List Int) := (K.take i).map (av n)
theorem avL_snoc {n i : Nat} {K : List (List Int)} {c : List Int} (h : K[i]? = some c) : avL n K i ++ [av n c] = avL n K (i + 1) := by
  unfold avL
  rw [List.take_add_one, h, List.map_append]; rfl
theorem avL_len (n : Nat) (K : List (List Int)) {i : Nat} (h : i ≤ K.length) : (avL n K i).length = i := by
  unfold avL
  rw [List.length_map, List.length_take]; omega
def twL (n turn : Nat) (K : List (List Int)) : Nat → List (List Int)
  | 0 => []
  | i + 1 => ((av n (K.getD i [])).map fun z => sgI turn i * z) :: (twL n turn K i ++ [av n (K.getD i [])])
theorem twL_len (n turn : Nat) (K : List (List Int)) : ∀ i, (twL n turn K i).length = 2 * i
  | 0 => rfl
  | i + 1 => by simp only [twL, List.length_cons, List.length_append, twL_len n turn K i, List.length_nil]; omega
theorem twL_mem {n turn : Nat} {K : List (List Int)} {x : List Int} : ∀ {i : Nat}, i ≤ K.length → (x ∈ twL n turn K i ↔ ∃ y ∈ avL n K i, x = y ∨ ∃ s : Int, (s = 1 ∨ s = -1) ∧ x = (y.map fun z => s * z) ∧ x ∈ twL n turn K i)
  | 0, _ => by simp [twL, avL]
  | i + 1, h => by
    constructor
    · intro hx
      obtain ⟨c, hc⟩ : ∃ c, K[i]? = some c := ⟨_, List.getElem?_eq_getElem (by omega)⟩
      have hg : K.getD i [] = c := by rw [List.getD_eq_getElem?_getD, hc]; rfl
      rw [← avL_snoc hc]
      have hx' := hx
      simp only [twL, hg, List.mem_cons, List.mem_append, List.not_mem_nil, or_false] at hx
      rcases hx with hx | hx | hx
      · exact ⟨av n c, by simp, .inr ⟨_, sgI_cases turn i, hx, hx'⟩⟩
      · obtain ⟨y, hy, h2⟩ := (twL_mem (i := i) (by omega)).1 hx
        refine ⟨y, by simp [hy], ?_⟩
        rcases h2 with h2 | ⟨s, hs, h3, _⟩
        · exact .inl h2
        · exact .inr ⟨s, hs, h3, hx'⟩
      · exact ⟨av n c, by simp, .inl hx⟩
    · rintro ⟨y, hy, h2⟩
      rcases h2 with rfl | ⟨s, hs, h3, h4⟩
      · obtain ⟨c, hc⟩ : ∃ c, K[i]? = some c := ⟨_, List.getElem?_eq_getElem (by omega)⟩
        have hg : K.getD i [] = c := by rw [List.getD_eq_getElem?_getD, hc]; rfl
        rw [← avL_snoc hc] at hy
        simp only [twL, hg, List.mem_cons, List.mem_append, List.not_mem_nil, or_false] at hy ⊢
        rcases hy with hy | hy
        · exact .inr (.inl ((twL_mem (i := i) (by omega)).2 ⟨x, hy, .inl rfl⟩))
        · exact .inr (.inr hy)
      · exact h4
theorem tw_good {M : List (List Int)} {turn i : Nat} {K : List (List Int)} (hn : 1 ≤ M.length) (hK : ∀ c ∈ K, I8 c) (hi : i ≤ K.length) : (∀ x ∈ avL M.length K i, GoodV M x) ∧ (∀ x ∈ twL M.length turn K i, GoodV M x) ∧ srt M (twL M.length turn K i) = srt M (avL M.length K i) := by
  have h1 : ∀ x ∈ avL M.length K i, GoodV M x := fun x hx => by
    obtain ⟨c, hc, rfl⟩ := List.mem_map.1 hx
    exact av_good hn (hK c (List.mem_of_mem_take hc))
  refine ⟨h1, fun x hx => ?_, srt_ext fun y => ⟨?_, ?_⟩⟩
  · obtain ⟨y, hy, h2⟩ := (twL_mem hi).1 hx
    rcases h2 with rfl | ⟨s, hs, rfl, _⟩
    · exact h1 _ hy
    · exact good_map hs (h1 y hy)
  · rintro ⟨x, hx, rfl⟩
    obtain ⟨y, hy, h2⟩ := (twL_mem hi).1 hx
    refine ⟨y, hy, ?_⟩
    rcases h2 with rfl | ⟨s, hs, rfl, _⟩
    · rfl
    · exact (itV_map hs).symm
  · rintro ⟨x, hx, rfl⟩
    exact ⟨x, (twL_mem hi).2 ⟨x, hx, .inl rfl⟩, rfl⟩
theorem lcIR_cons (M : List (List Int)) (r : List Int) : ([AV.p (.sl (ls fI r))] :: lc (fR fI) M) = lc (fR fI) (r :: M) := rfl
set_option maxRecDepth 100000 in
set_option maxHeartbeats 16000000 in
theorem lawSortedOnce_C (dim kind : Nat) (L B : List Int) (KL : List (List Int)) (turn : Nat) (hL : I8 L) (hdim : dim ≤ 255) (hkind : kind ≤ 255) (hKL : ∀ c ∈ KL, I8 c) (lK : KL.length ≤ 9223372036854775807) (ht : turn ≤ 255) :
    CallC Tryz.prog 4 [tL dim kind L B, sl8M KL, .raw (.int .u8 (turn : Int))] ⟨[], .raw (.bool true)⟩ := by
  have c5 := awake_C
  by_cases h1 : 12 < KL.length
  · refine callC_of Tryz.func4 rfl (by kernel_rfl) ?_; rw [Tryz.ntmps4]
    (refine WpA_sreg [] [] (by simp) fun K hK => ?_; simp (disch := omega) only [kc, prep1, tL, sl8M, Nat.reduceAdd, List.replicate, opS_box, newS, effA, cellsOf, isPure, ifT, ofConst, Value.oneCell']; (with_reducible refine hK _ ?_))
    (refine WpA_seq (WpA_sreg [] [] (by simp) fun K hK => ?_); simp (disch := omega) only [kc, prep1, Nat.reduceAdd, opS_len, effR, ty_slice25, ls_len, effM, ofConst, Value.oneCell', evBin, decT]; (with_reducible refine hK _ ?_))
    refine WpA_cond rfl (fun _ => ?_) (fun h => by simp at h <;> omega)
    (refine WpA_sreg [⟨0, _, _, _, c5⟩] [] (by simp) fun K hK => ?_; simp (disch := omega) only [kc, CItem.a, prep1, opS_call, newS, effA, List.find?_cons, evAll, CallRes.plain, rawTV, rawAV, noRefTV, noRefAV, renTV, renAV]; (with_reducible refine hK _ ?_))
    (refine WpA_ret ⟨.inr rfl, ret_now rfl ?_ rfl⟩; simp (disch := omega) only [resA, Tryz.results4, resOne, List.getElem?_cons_succ, List.getElem?_cons_zero])
  obtain ⟨n, hn⟩ : ∃ n, n = 1 + dim % 3 := ⟨_, rfl⟩
  obtain ⟨f, hr, cF⟩ := Form_C dim kind L B 3 n hL hdim hkind (by omega) (by omega) hn
  rw [show ((3 : Nat) : Int) = 3 from rfl] at cF
  have hM := MI_red (by omega) (by omega) hr
  have hred : isReducedM (mat n n f) = true := (isReducedM_iff _).2 ((RedP_mat (by omega)).2 ⟨rfl, by omega, hr⟩)
  have hml := mat_len n n f
  generalize mat n n f = M at *
  obtain ⟨k, hk⟩ : ∃ k, k = KL.length := ⟨_, rfl⟩
  have hkl := hk.symm
  refine callC_of Tryz.func4 rfl (by kernel_rfl) ?_; rw [Tryz.ntmps4]
  (refine WpA_sreg [] [] (by simp) fun K hK => ?_; simp (disch := omega) only [kc, prep1, tL, sl8M, Nat.reduceAdd, List.replicate, opS_box, newS, effA, cellsOf, isPure, ifT, ofConst, Value.oneCell']; (with_reducible refine hK _ ?_))
  (refine WpA_seq (WpA_sreg [] [] (by simp) fun K hK => ?_); simp (disch := omega) only [kc, prep1, Nat.reduceAdd, opS_len, effR, ty_slice25, ls_len, effM, ofConst, Value.oneCell', evBin, decF]; (with_reducible refine hK _ ?_))
  refine WpA_cond rfl (fun h => by simp at h <;> omega) (fun _ => WpA_skip ?_)
  show WpA _ _ _ _
  (refine WpA_sreg [⟨1, _, _, _, cF⟩] [] (by simp) fun K hK => ?_; simp (disch := omega) only [kc, tL, slI, CItem.a, prep1, Nat.reduceAdd, effR, updH, packT, ty_sz24, ty_agg24, Nat.le_refl, opS_call, newS, effA, List.find?_cons, evAll, ofConst, Value.oneCell', norm, CallRes.plain, rawTV, rawAV, normOk, isPure, noRefTV, noRefAV, renTV, renAV]; (with_reducible refine hK _ ?_))
  (refine WpA_sreg [] [] (by simp) fun K hK => ?_; simp (disch := omega) only [kc, prep1, ofConst, Value.oneCell']; (with_reducible refine hK _ ?_))
  (refine WpA_seq (WpA_sreg [] [] (by simp) fun K hK => ?_); simp (disch := omega) only [kc, prep1, Nat.reduceAdd, hkl, opS_len, effR, ty_slice25, ls_len, ofConst, Value.oneCell']; (with_reducible refine hK _ ?_))
  refine WpA_forb (G := FiG k) (fun g => ⟨[jk, sl8M KL, .raw (.int .u8 (turn : Int)), jk, jk, jk, jk, slI M, .one (.sl 51 0 0 g.i), .one (.sl 900 0 0 (2 * g.i)), jk, jk, jk, jk, jk, jk, jk, jk, jk, jk, jk, jk, jk, jk, jk, jk, jk, jk, jk, jk, jk, jk, sl8M KL, .raw (.int .i64 (k : Int)), .raw (.int .i64 (g.i : Int)), jk, jk, jk, jk, jk, jk, jk, jk, jk, jk, jk, jk, jk, jk, jk, jk, jk, jk, jk, jk, jk, jk, jk, jk, jk, jk, jk, jk, jk, jk, jk, jk, jk, jk, jk, jk, jk, jk, jk, jk, jk, jk, jk, jk, jk, jk, jk, jk, jk, jk, jk, jk, jk, jk, jk, jk, jk, jk, jk, jk, jk, jk, jk, jk, jk, jk, jk, jk, jk, jk, jk, jk, jk, jk, jk, jk, jk, jk, jk, jk, jk, jk, jk, jk, jk, jk, jk, jk, jk, jk, jk, jk, jk, jk, jk, jk, jk, jk, jk, jk, jk, jk, jk, jk, jk, jk, jk, jk, jk, jk, jk, jk, jk, jk, jk, jk, jk, jk, jk, jk, jk, jk, jk, jk, jk, jk, jk, jk, jk, jk, jk, jk, jk, jk, jk, jk, jk, jk, jk, jk, jk, jk, jk, jk, jk, jk, jk, jk, jk, jk], Hm [(51, [⟨29, 1, lc (fR fI) (avL n KL g.i)⟩]), (900, [⟨29, 1, lc (fR fI) (twL n turn KL g.i)⟩])]⟩) (fun g => k - g.i) ⟨0, by omega⟩ ?_ ?_
  · refine (Weak_nil (k := 8) (d := 51) 29 1 (by omega) rfl rfl).trans ((Weak_nil (k := 9) (d := 900) 29 1 (by omega) rfl rfl).trans (Weak_sub ⟨rfl, rfl, trivial⟩ ?_))
    simp [wkL, okTV, okAV]
  · rintro ⟨i, hi⟩
    simp only
    by_cases hm : i < k
    · obtain ⟨c, hc⟩ := getElem?_of_lt (show i < KL.length by omega)
      have hc8 := hKL c (List.mem_of_getElem? hc)
      have cV := Vector_C c n hc8 (by omega)
      have hrl := rowF_len n (vcF c)
      have cC := Content_C (rowF n (vcF c)) (fun z hz => by have := row_bd hc8 z hz; exact ⟨by omega, by omega⟩) (by rw [rowF_len]; omega)
      have hvl := avL_len n KL (show i ≤ KL.length by omega)
      have htl := twL_len n turn KL i
      have hsn := avL_snoc (n := n) hc
      have hal := av_len n c
      have hab := av_bd (n := n) hc8
      have hav : av n c = if cont (rowF n (vcF c)) = 0 then (rowF n (vcF c)).set 0 1 else rowF n (vcF c) := rfl
      have htw : twL n turn KL (i + 1) = ((av n c).map fun z => sgI turn i * z) :: (twL n turn KL i ++ [av n c]) := by
        rw [twL, List.getD_eq_getElem?_getD, hc]; rfl
      obtain ⟨T', hT'⟩ : ∃ T', T' = twL n turn KL (i + 1) := ⟨_, rfl⟩
      rw [← hT'] at htw
      generalize twL n turn KL i = T at *
      obtain ⟨V', hV'⟩ : ∃ V', V' = avL n KL (i + 1) := ⟨_, rfl⟩
      rw [← hV'] at hsn
      generalize avL n KL i = V at *
      generalize av n c = A at *
      generalize rowF n (vcF c) = R at *
      (refine WpA_sreg [] [] (by simp) fun K hK => ?_; simp (disch := omega) only [kc, prep1, sl8M, slI, Hm, effM, evBin, decT]; (with_reducible refine hK _ ?_))
      refine WpA_seq (WpA_cond rfl (fun _ => WpA_skip ?_) (fun h => by simp at h <;> omega))
      refine WpA_seq (WpA_block ?_)
      (refine WpA_sreg [] [] (by simp) fun K hK => ?_; simp (disch := omega) only [kc, prep1, Nat.reduceAdd, opS_indexAddr, effR, natOf_pos, ty_slice25, ls_get, hc, fR, ty_sz22, packT, ty_agg22]; (with_reducible refine hK _ ?_))
      (refine WpA_sreg [⟨3, _, _, _, cV⟩] [] (by simp) fun K hK => ?_; simp (disch := omega) only [kc, sl8, CItem.a, prep1, Nat.reduceAdd, opS_len, effR, ty_slice26, ls_len, hml, opS_call, newS, effA, List.find?_cons, evAll, norm, CallRes.plain, List.isEmpty_cons, rawTV, rawAV, normOk, Bool.not_false, noRefTV, noRefAV, Bool.or_false, renTV, renAV, renO, lc_ren, Nat.reduceEqDiff, ifF]; (with_reducible refine hK _ ?_))
      refine WpA_seq (WpA_cut (S := ⟨[jk, sl8M KL, .raw (.int .u8 (turn : Int)), jk, jk, jk, jk, slI M, .one (.sl 51 0 0 i), .one (.sl 900 0 0 (2 * i)), .raw (.int .i64 (i : Int)), jk, sl1 A, jk, jk, jk, jk, jk, jk, jk, jk, jk, jk, jk, jk, jk, jk, jk, jk, jk, jk, jk, sl8M KL, .raw (.int .i64 (k : Int)), .raw (.int .i64 (i : Int)), jk, jk, jk, jk, jk, jk, jk, jk, jk, jk, jk, jk, jk, jk, jk, jk, jk, jk, jk, jk, jk, jk, jk, jk, jk, jk, jk, jk, jk, jk, jk, jk, jk, jk, jk, jk, jk, jk, jk, jk, jk, jk, jk, jk, jk, jk, jk, jk, jk, jk, jk, jk, jk, jk, jk, jk, jk, jk, jk, jk, jk, jk, jk, jk, jk, jk, jk, jk, jk, jk, jk, jk, jk, jk, jk, jk, jk, jk, jk, jk, jk, jk, jk, jk, jk, jk, jk, jk, jk, jk, jk, jk, jk, jk, jk, jk, jk, jk, jk, jk, jk, jk, jk, jk, jk, jk, jk, jk, jk, jk, jk, jk, jk, jk, jk, jk, jk, jk, jk, jk, jk, jk, jk, jk, jk, jk, jk, jk, jk, jk, jk, jk, jk, jk, jk, jk, jk, jk, jk, jk, jk, jk, jk, jk, jk, jk, jk, jk, jk, jk], Hm [(51, [⟨29, 1, lc (fR fI) V⟩]), (900, [⟨29, 1, lc (fR fI) T⟩])]⟩) ?_ ?_)
      · by_cases h0 : cont R = 0
        · rw [if_pos h0] at hav
          rw [h0] at cC
          obtain ⟨z0, hz0⟩ := getElem?_of_lt (show 0 < R.length by omega)
          (refine WpA_sreg [⟨1, _, _, _, cC⟩] [] (by simp) fun K hK => ?_; simp (disch := omega) only [kc, sl1, CItem.a, prep1, Nat.reduceAdd, opS_call, newS, effA, List.find?_cons, evAll, norm, updH, Nat.reduceEqDiff, ifF, lc_take, List.take_of_length_le, lc_pure, CallRes.plain, rawTV, rawAV, normOk, lc_allp, noRefTV, noRefAV, renTV, renAV, effM, ofConst, Value.oneCell', evBin, decT]; (with_reducible refine hK _ ?_))
          refine WpA_cond rfl (fun _ => ?_) (fun h => by simp at h)
          ((refine WpA_lreg [] [] (by simp) fun K hK => ?_); simp (disch := omega) only [kc, prep1, Nat.reduceAdd, opS_indexAddr, effR, ofConst, Value.oneCell', natOf_pos, Int.reduceToNat, ty_slice29, updH, Nat.reduceEqDiff, ifF, ty_sz2, Nat.add_zero, ifT, opS_store, wrS, effD, lc_get, fI, hz0, cellsOf, Nat.le_refl, isPure, putCells, lcI_set, killTV, killAV]; (with_reducible refine hK _ ?_))
          refine (Weak_fz 42 (fzOk_one rfl)).trans (Weak_sub ⟨rfl, rfl, trivial⟩ ?_)
          rw [hav]
          simp [wkL, okTV, okAV, fzTV, fzAV, updH, Hm, lc_take, lc_cellF, List.take_of_length_le, hrl]
        · rw [if_neg h0] at hav
          subst hav
          (refine WpA_sreg [⟨1, _, _, _, cC⟩] [] (by simp) fun K hK => ?_; simp (disch := omega) only [kc, sl1, CItem.a, prep1, Nat.reduceAdd, opS_call, newS, effA, List.find?_cons, evAll, norm, updH, Nat.reduceEqDiff, ifF, lc_take, List.take_of_length_le, lc_pure, CallRes.plain, rawTV, rawAV, normOk, lc_allp, noRefTV, noRefAV, renTV, renAV, effM, ofConst, Value.oneCell', evBin, decF]; (with_reducible refine hK _ ?_))
          refine WpA_cond rfl (fun h => by simp at h <;> omega) (fun _ => WpA_skip ?_)
          refine (Weak_fz 42 (fzOk_one rfl)).trans (Weak_sub ⟨rfl, rfl, trivial⟩ ?_)
          simp [wkL, okTV, okAV, fzTV, fzAV, updH, Hm, lc_take, lc_cellF, List.take_of_length_le, hrl]
      · clear hav cC cV
        (refine WpA_sreg [] [] (by simp) fun K hK => ?_; simp (disch := omega) only [kc, prep1, Nat.reduceAdd, sl8M, slI, sl1, Hm, opS_buildSlice, newS, effA, ty_slice26, ty_zero29, ty_sz29, litA, cellsOf, isPure, Nat.reduceMul, Nat.reduceLeDiff, List.contains_nil, unP, ifT, opS_append, appS, effD, newsOf, Nat.reduceEqDiff, ty_by29, lc_allp, lc_len, hvl, allcons, allnil, and_true, killO, lc_kill, lcIR_snoc, hsn, wrS, killTV, killAV, Nat.reduceBEq]; (with_reducible refine hK _ ?_))
        (refine WpA_sreg [] [] (by simp) fun K hK => ?_; simp (disch := omega) only [kc, prep1, Nat.reduceAdd, opS_append, appS, effD, ofConst, Value.oneCell', newsOf, ls_own, ty_slice29, newS, effA, ty_zero2, ty_sz2, ty_by2, lc_len, hal, lc_all fI_len, and_true, ifT, updH, Nat.reduceEqDiff, ifF]; (with_reducible refine hK _ ?_))
        (refine WpA_seq (WpA_sreg [] [] (by simp) fun K hK => ?_); simp (disch := omega) only [kc, prep1, Nat.reduceAdd, opS_len, effR, ty_slice29, ofConst, Value.oneCell']; (with_reducible refine hK _ ?_))
        obtain ⟨s, hs⟩ : ∃ s, s = sgI turn i := ⟨_, rfl⟩
        rw [← hs] at htw
        refine WpA_forb (G := FiG n) (fun g => ⟨[jk, sl8M KL, .raw (.int .u8 (turn : Int)), jk, jk, jk, jk, slI M, .one (.sl 51 0 0 (i + 1)), .one (.sl 900 0 0 (2 * i)), .raw (.int .i64 (i : Int)), jk, sl1 A, .one (.sl 53 0 0 n), jk, jk, jk, jk, jk, jk, jk, jk, jk, jk, jk, jk, jk, jk, jk, jk, jk, jk, sl8M KL, .raw (.int .i64 (k : Int)), .raw (.int .i64 (i : Int)), jk, jk, jk, jk, jk, jk, jk, jk, jk, jk, jk, jk, jk, jk, jk, jk, jk, jk, jk, jk, .raw (.int .i64 (n : Int)), .raw (.int .i64 (g.i : Int)), jk, jk, jk, jk, jk, jk, jk, jk, jk, jk, jk, jk, jk, jk, jk, jk, jk, jk, jk, jk, jk, jk, jk, jk, jk, jk, jk, jk, jk, jk, jk, jk, jk, jk, jk, jk, jk, jk, jk, jk, jk, jk, jk, jk, jk, jk, jk, jk, jk, jk, jk, jk, jk, jk, jk, jk, jk, jk, jk, jk, jk, jk, jk, jk, jk, jk, jk, jk, jk, jk, jk, jk, jk, jk, jk, jk, jk, jk, jk, jk, jk, jk, jk, jk, jk, jk, jk, jk, jk, jk, jk, jk, jk, jk, jk, jk, jk, jk, jk, jk, jk, jk, jk, jk, jk, jk, jk, jk, jk, jk, jk, jk, jk, jk, jk, jk, jk, jk, jk, jk, jk, jk, jk, jk, jk, jk, jk, jk], Hm [(51, [⟨29, 1, lc (fR fI) V'⟩]), (53, [⟨2, 1, lc fI (bvP s A g.i)⟩]), (900, [⟨29, 1, lc (fR fI) T⟩])]⟩) (fun g => n - g.i) ⟨0, by omega⟩ ?_ ?_
        · refine Weak_sub ⟨rfl, ?_, rfl, trivial⟩ ?_
          · rw [bvP_zero]; rfl
          · simp [wkL, okTV, okAV]
        · rintro ⟨j, hj⟩
          simp only
          by_cases hm2 : j < n
          · obtain ⟨z, hz⟩ := getElem?_of_lt (show j < A.length by omega)
            have hzb := hab z (List.mem_of_getElem? hz)
            have hbl := bvP_len s A j
            rw [hal] at hbl
            have hbg := bvP_get (s := s) hz
            have e2 : Int.tmod ((turn : Int) + (i : Int)) 2 = (((turn + i) % 2 : Nat) : Int) := (Int.ofNat_tmod (turn + i) 2).symm
            by_cases hev : (turn + i) % 2 = 0
            · have hs1 : s = -1 := by rw [hs]; exact if_pos hev
              have hbs := bvP_set hz
              rw [← hs1] at hbs
              obtain ⟨B', hB'⟩ : ∃ B', B' = bvP s A (j + 1) := ⟨_, rfl⟩
              rw [← hB'] at hbs
              generalize bvP s A j = B0 at *
              (refine WpA_sreg [] [] (by simp) fun K hK => ?_; simp (disch := omega) only [kc, prep1, sl8M, slI, sl1, Hm, effM, evBin, decT]; (with_reducible refine hK _ ?_))
              refine WpA_seq (WpA_cond rfl (fun _ => WpA_skip ?_) (fun h => by simp at h <;> omega))
              refine WpA_seq (WpA_block ?_)
              (refine WpA_sreg [] [] (by simp) fun K hK => ?_; simp (disch := omega) only [kc, prep1]; (with_reducible refine hK _ ?_))
              (refine WpA_sreg [] [] (by simp) fun K hK => ?_; simp (disch := omega) only [kc, prep1, Nat.reduceAdd, opS_conv, effM, Tryz.underlying5, ty_int3, wrapI, evBin, ofConst, Value.oneCell', e2, ifT, decT]; (with_reducible refine hK _ ?_))
              refine WpA_cond rfl (fun _ => ?_) (fun h => by simp at h <;> omega)
              ((refine WpA_lreg [] [] (by simp) fun K hK => ?_); simp (disch := omega) only [kc, prep1, Nat.reduceAdd, opS_indexAddr, effR, natOf_pos, ty_slice29, Nat.reduceEqDiff, ifF, ty_sz2, ifT, lc_get, fI, hbg, packT, ty_agg2, opS_un, effM, evUn, wrapI, opS_store, wrS, effD, cellsOf, Nat.le_refl, isPure, putCells, lcI_set, hbs, killTV, killAV]; (with_reducible refine hK _ ?_))
              show WpA _ _ _ _
              ((refine WpA_lreg [] [] (by simp) fun K hK => ?_); simp (disch := omega) only [kc, prep1, effM, ofConst, Value.oneCell', evBin, wrapI]; (with_reducible refine hK _ ?_))
              refine ⟨⟨j + 1, by omega⟩, by simp only; omega, Weak_sub ⟨rfl, ?_, rfl, trivial⟩ ?_⟩
              · show _ = [(⟨_, _, lc fI (bvP s A (j + 1))⟩ : OObj)]
                rw [← hB']; rfl
              · simp [wkL, okTV, okAV]
            · have hs1 : s = 1 := by rw [hs]; exact if_neg hev
              have hbs : bvP s A j = bvP s A (j + 1) := by rw [hs1, bvP_one, bvP_one]
              rw [hbs]
              obtain ⟨B', hB'⟩ : ∃ B', B' = bvP s A (j + 1) := ⟨_, rfl⟩
              rw [← hB']
              (refine WpA_sreg [] [] (by simp) fun K hK => ?_; simp (disch := omega) only [kc, prep1, sl8M, slI, sl1, Hm, effM, evBin, decT]; (with_reducible refine hK _ ?_))
              refine WpA_seq (WpA_cond rfl (fun _ => WpA_skip ?_) (fun h => by simp at h <;> omega))
              refine WpA_seq (WpA_block ?_)
              (refine WpA_sreg [] [] (by simp) fun K hK => ?_; simp (disch := omega) only [kc, prep1]; (with_reducible refine hK _ ?_))
              (refine WpA_sreg [] [] (by simp) fun K hK => ?_; simp (disch := omega) only [kc, prep1, Nat.reduceAdd, opS_conv, effM, Tryz.underlying5, ty_int3, wrapI, evBin, ofConst, Value.oneCell', e2, ifT, decF]; (with_reducible refine hK _ ?_))
              refine WpA_cond rfl (fun h => by simp at h <;> omega) (fun _ => WpA_skip ?_)
              show WpA _ _ _ _
              ((refine WpA_lreg [] [] (by simp) fun K hK => ?_); simp (disch := omega) only [kc, prep1, effM, ofConst, Value.oneCell', evBin, wrapI]; (with_reducible refine hK _ ?_))
              refine ⟨⟨j + 1, by omega⟩, by simp only; omega, Weak_sub ⟨rfl, ?_, rfl, trivial⟩ ?_⟩
              · show _ = [(⟨_, _, lc fI (bvP s A (j + 1))⟩ : OObj)]
                rw [← hB']; rfl
              · simp [wkL, okTV, okAV]
          · have hjn : j = n := by omega
            subst hjn
            have hbe : bvP s A j = A.map fun z => s * z := by
              have := bvP_end s A
              rwa [hal] at this
            rw [hbe]
            have hTl : (T ++ [A]).length = 2 * i + 1 := by rw [List.length_append, htl]; rfl
            have hbl : (A.map fun z => s * z).length = j := by rw [List.length_map, hal]
            generalize (A.map fun z => s * z) = B0 at *
            (refine WpA_sreg [] [] (by simp) fun K hK => ?_; simp (disch := omega) only [kc, prep1, sl8M, slI, sl1, Hm, effM, evBin, decF]; (with_reducible refine hK _ ?_))
            refine WpA_seq (WpA_cond rfl (fun h => by simp at h <;> omega) (fun _ => WpA_exit ?_))
            show WpA _ _ _ _
            refine WpA.weak ((Weak_fz 53 (fzOk_one rfl)).trans (Weak_sub (tm := [jk, sl8M KL, .raw (.int .u8 (turn : Int)), jk, jk, jk, jk, slI M, .one (.sl 51 0 0 (i + 1)), .one (.sl 900 0 0 (2 * i)), jk, jk, sl1 A, sl1 B0, jk, jk, jk, jk, jk, jk, jk, jk, jk, jk, jk, jk, jk, jk, jk, jk, jk, jk, sl8M KL, .raw (.int .i64 (k : Int)), .raw (.int .i64 (i : Int)), jk, jk, jk, jk, jk, jk, jk, jk, jk, jk, jk, jk, jk, jk, jk, jk, jk, jk, jk, jk, jk, jk, jk, jk, jk, jk, jk, jk, jk, jk, jk, jk, jk, jk, jk, jk, jk, jk, jk, jk, jk, jk, jk, jk, jk, jk, jk, jk, jk, jk, jk, jk, jk, jk, jk, jk, jk, jk, jk, jk, jk, jk, jk, jk, jk, jk, jk, jk, jk, jk, jk, jk, jk, jk, jk, jk, jk, jk, jk, jk, jk, jk, jk, jk, jk, jk, jk, jk, jk, jk, jk, jk, jk, jk, jk, jk, jk, jk, jk, jk, jk, jk, jk, jk, jk, jk, jk, jk, jk, jk, jk, jk, jk, jk, jk, jk, jk, jk, jk, jk, jk, jk, jk, jk, jk, jk, jk, jk, jk, jk, jk, jk, jk, jk, jk, jk, jk, jk, jk, jk, jk, jk, jk, jk, jk, jk, jk, jk, jk, jk]) (l := [(51, [⟨29, 1, lc (fR fI) V'⟩]), (900, [⟨29, 1, lc (fR fI) T⟩])]) ⟨rfl, rfl, trivial⟩ (by simp [wkL, okTV, okAV, fzTV, fzAV, updH, Hm, lc_take, lc_cellF, List.take_of_length_le, hbl]))) ?_
            ((refine WpA_lreg [] [75] (by simp) fun K hK => ?_); simp (disch := omega) only [kc, prep1, Nat.reduceAdd, sl8M, slI, sl1, Hm, opS_buildSlice, newS, effA, ty_slice26, ty_zero29, ty_sz29, litA, cellsOf, isPure, Nat.reduceMul, Nat.reduceLeDiff, List.contains_cons, List.contains_nil, Bool.or_false, unP, ifT, Nat.reduceEqDiff, ifF, Nat.reduceBEq, opS_append, appS, effD, newsOf, updH, ty_by29, lc_allp, lc_len, htl, allcons, allnil, and_true, killO, lc_kill, lcIR_snoc, wrS, killTV, killAV, lc_take, List.take_of_length_le, hTl, lc_all fRI_len, lcIR_cons, ← htw]; (with_reducible refine hK _ ?_))
            show WpA _ _ _ _
            ((refine WpA_lreg [] [] (by simp) fun K hK => ?_); simp (disch := omega) only [kc, prep1, effM, ofConst, Value.oneCell', evBin, wrapI]; (with_reducible refine hK _ ?_))
            have e9 : 1 + (2 * i + 1) = 2 * (i + 1) := by omega
            refine ⟨⟨i + 1, by omega⟩, by simp only; omega, (Weak_rn 75 900).trans (Weak_sub ⟨?_, ?_, trivial⟩ ?_)⟩
            · simp [rnH, sw, Hm, updH, rnO, lc_rn, hV']
            · simp [rnH, sw, Hm, updH, rnO, lc_rn, hT']
            · simp [wkL, okTV, okAV, rnTV, rnAV, sw, e9]
    · have hin : i = k := by omega
      subst hin
      obtain ⟨hg1, hg2, hg3⟩ := tw_good (M := M) (turn := turn) (i := i) (K := KL) (by omega) hKL (by omega)
      have hvl := avL_len n KL (show i ≤ KL.length by omega)
      have htl := twL_len n turn KL i
      rw [hml] at hg1 hg2 hg3
      generalize avL n KL i = V at *
      generalize twL n turn KL i = T at *
      have g1 := pSort_C M V (by omega)
      have g2 := pSort_C M T (by omega)
      rw [su_good hred hg1] at g1
      rw [su_good hred hg2, hg3] at g2
      have hlen := srt_len M V
      have hnil := srt_nil (M := M) (l := V)
      have hsg := srt_good hg1
      have hss := srt_srt hg1
      have hlt := fun i a b => srt_lt (M := M) (l := V) (i := i) (a := a) (b := b)
      have g3 := pSort_C M ((srt M V).map Prod.snd) (by rw [List.length_map]; omega)
      rw [su_good hred (fun x hx => by
        obtain ⟨y, hy, rfl⟩ := List.mem_map.1 hx
        exact (hsg y hy).1), hss] at g3
      generalize srt M V = Z at *
      have hSl : (Z.map Prod.snd).length = Z.length := List.length_map _
      have hSg : ∀ (j : Nat) (a : Int × List Int), Z[j]? = some a → (Z.map Prod.snd)[j]? = some a.2 := fun j a ha => by rw [List.getElem?_map, ha]; rfl
      have s1 := same_C (Z.map Prod.snd) (Z.map Prod.snd)
      rw [decide_eq_true rfl] at s1
      generalize Z.map Prod.snd = S at *
      (refine WpA_sreg [] [] (by simp) fun K hK => ?_; simp (disch := omega) only [kc, prep1, sl8M, slI, Hm, effM, evBin, decF]; (with_reducible refine hK _ ?_))
      refine WpA_seq (WpA_cond rfl (fun h => by simp at h <;> omega) (fun _ => WpA_exit ?_))
      show WpA _ _ _ _
      refine WpA.weak ((Weak_fz 51 (fzOk_one rfl)).trans ((Weak_fz 900 (fzOk_one rfl)).trans (Weak_sub (tm := [jk, sl8M KL, jk, jk, jk, jk, jk, slI M, slI V, slI T, jk, jk, jk, jk, jk, jk, jk, jk, jk, jk, jk, jk, jk, jk, jk, jk, jk, jk, jk, jk, jk, jk, jk, jk, jk, jk, jk, jk, jk, jk, jk, jk, jk, jk, jk, jk, jk, jk, jk, jk, jk, jk, jk, jk, jk, jk, jk, jk, jk, jk, jk, jk, jk, jk, jk, jk, jk, jk, jk, jk, jk, jk, jk, jk, jk, jk, jk, jk, jk, jk, jk, jk, jk, jk, jk, jk, jk, jk, jk, jk, jk, jk, jk, jk, jk, jk, jk, jk, jk, jk, jk, jk, jk, jk, jk, jk, jk, jk, jk, jk, jk, jk, jk, jk, jk, jk, jk, jk, jk, jk, jk, jk, jk, jk, jk, jk, jk, jk, jk, jk, jk, jk, jk, jk, jk, jk, jk, jk, jk, jk, jk, jk, jk, jk, jk, jk, jk, jk, jk, jk, jk, jk, jk, jk, jk, jk, jk, jk, jk, jk, jk, jk, jk, jk, jk, jk, jk, jk, jk, jk, jk, jk, jk, jk, jk, jk, jk, jk, jk, jk, jk, jk, jk, jk, jk]) (l := []) trivial (by simp [wkL, okTV, okAV, fzTV, fzAV, updH, Hm, lc_take, lc_cellF, List.take_of_length_le, hvl, htl])))) ?_
      (refine WpA_sreg [⟨2, _, _, _, g1⟩] [] (by simp) fun K hK => ?_; simp (disch := omega) only [kc, slI, grT, CItem.a, prep1, Nat.reduceAdd, sl8M, Hm, opS_call, newS, effA, List.find?_cons, evAll, norm, CallRes.plain, rawTV, rawAV, normOk, noRefTV, noRefAV, renTV, renAV, opS_extract, effM]; (with_reducible refine hK _ ?_))
      (refine WpA_sreg [⟨2, _, _, _, g2⟩] [] (by simp) fun K hK => ?_; simp (disch := omega) only [kc, slI, grT, CItem.a, prep1, Nat.reduceAdd, opS_call, newS, effA, List.find?_cons, evAll, norm, CallRes.plain, rawTV, rawAV, normOk, noRefTV, noRefAV, renTV, renAV, opS_extract, effM]; (with_reducible refine hK _ ?_))
      (refine WpA_sreg [⟨2, _, _, _, g3⟩] [] (by simp) fun K hK => ?_; simp (disch := omega) only [kc, slI, grT, CItem.a, prep1, Nat.reduceAdd, opS_call, newS, effA, List.find?_cons, evAll, norm, CallRes.plain, rawTV, rawAV, normOk, noRefTV, noRefAV, renTV, renAV, opS_extract, effM]; (with_reducible refine hK _ ?_))
      refine WpA_seq (WpA_cut (S := ⟨[jk, jk, jk, jk, jk, jk, jk, slI M, jk, jk, jk, jk, jk, jk, jk, slI S, jk, jk, jk, jk, jk, jk, jk, jk, jk, jk, jk, jk, jk, jk, jk, jk, jk, jk, jk, jk, jk, jk, jk, jk, jk, jk, jk, jk, jk, jk, jk, jk, jk, jk, jk, jk, jk, jk, jk, jk, jk, jk, jk, jk, jk, jk, jk, jk, jk, jk, jk, jk, jk, jk, jk, jk, jk, jk, jk, jk, jk, jk, jk, jk, jk, jk, jk, jk, jk, jk, jk, jk, jk, jk, jk, jk, jk, jk, jk, jk, jk, jk, jk, jk, jk, jk, jk, jk, jk, jk, jk, jk, jk, jk, jk, jk, jk, jk, jk, jk, jk, jk, jk, jk, jk, jk, jk, jk, jk, jk, jk, jk, jk, jk, jk, jk, jk, jk, jk, jk, jk, jk, jk, jk, jk, jk, jk, jk, jk, jk, jk, jk, jk, jk, jk, jk, jk, jk, jk, jk, jk, jk, jk, jk, jk, jk, jk, jk, jk, jk, jk, jk, jk, jk, jk, jk, jk, jk, jk, jk, jk, jk, jk, jk, jk, jk, jk, jk, jk], Hm []⟩) ?_ ?_)
      · by_cases hk0 : i = 0
        · have hS0 : S.length = 0 := by omega
          (refine WpA_sreg [⟨13, _, _, _, s1⟩, ⟨19, _, _, _, s1⟩] [] (by simp) fun K hK => ?_; simp (disch := omega) only [kc, slI, CItem.a, prep1, Nat.reduceAdd, opS_un, effM, evUn, stS_guard, opS_pick, opS_call, newS, effA, List.find?_cons, evAll, norm, CallRes.plain, rawTV, rawAV, normOk, noRefTV, noRefAV, renTV, renAV, ifT, Nat.reduceBEq, opS_len, effR, ty_slice26, ls_len, hS0, ty_slice25, hkl, hk0, evBin, decF, ofConst, Value.oneCell', decT, ty_bool4]; (with_reducible refine hK _ ?_))
          refine WpA_cond rfl (fun h => by simp at h) (fun _ => WpA_skip (Weak_sub trivial ?_))
          simp [wkL, okTV, okAV]
        · have hS0 : ¬ S.length = 0 := by omega
          (refine WpA_sreg [⟨13, _, _, _, s1⟩, ⟨19, _, _, _, s1⟩] [] (by simp) fun K hK => ?_; simp (disch := omega) only [kc, slI, CItem.a, prep1, Nat.reduceAdd, opS_un, effM, evUn, stS_guard, opS_pick, opS_call, newS, effA, List.find?_cons, evAll, norm, CallRes.plain, rawTV, rawAV, normOk, noRefTV, noRefAV, renTV, renAV, ifT, Nat.reduceBEq, opS_len, effR, ty_slice26, ls_len, ty_slice25, hkl, evBin, decF, ofConst, Value.oneCell', ty_bool4]; (with_reducible refine hK _ ?_))
          refine WpA_cond rfl (fun h => by simp at h) (fun _ => WpA_skip (Weak_sub trivial ?_))
          simp [wkL, okTV, okAV]
      · (refine WpA_seq (WpA_sreg [] [] (by simp) fun K hK => ?_); simp (disch := omega) only [kc, prep1, slI, Hm, ofConst, Value.oneCell']; (with_reducible refine hK _ ?_))
        refine WpA_forb (G := FiG (S.length + 1)) (fun g => ⟨[jk, jk, jk, jk, jk, jk, jk, slI M, jk, jk, jk, jk, jk, jk, jk, slI S, jk, jk, jk, jk, jk, .raw (.int .i64 ((g.i + 1 : Nat) : Int)), jk, jk, jk, jk, jk, jk, jk, jk, jk, jk, jk, jk, jk, jk, jk, jk, jk, jk, jk, jk, jk, jk, jk, jk, jk, jk, jk, jk, jk, jk, jk, jk, jk, jk, jk, jk, jk, jk, jk, jk, jk, jk, jk, jk, jk, jk, jk, jk, jk, jk, jk, jk, jk, jk, jk, jk, jk, jk, jk, jk, jk, jk, jk, jk, jk, jk, jk, jk, jk, jk, jk, jk, jk, jk, jk, jk, jk, jk, jk, jk, jk, jk, jk, jk, jk, jk, jk, jk, jk, jk, jk, jk, jk, jk, jk, jk, jk, jk, jk, jk, jk, jk, jk, jk, jk, jk, jk, jk, jk, jk, jk, jk, jk, jk, jk, jk, jk, jk, jk, jk, jk, jk, jk, jk, jk, jk, jk, jk, jk, jk, jk, jk, jk, jk, jk, jk, jk, jk, jk, jk, jk, jk, jk, jk, jk, jk, jk, jk, jk, jk, jk, jk, jk, jk, jk, jk, jk, jk, jk, jk, jk, jk, jk], Hm []⟩) (fun g => S.length + 1 - g.i) ⟨0, by omega⟩ ?_ ?_
        · refine Weak_sub trivial ?_
          simp [wkL, okTV, okAV]
        · rintro ⟨j, hj⟩
          simp only
          have ej : ((j + 1 : Nat) : Int) - 1 = (j : Int) := by omega
          by_cases hm : j + 1 < S.length
          · obtain ⟨⟨ka, xa⟩, ha⟩ := getElem?_of_lt (show j < Z.length by omega)
            obtain ⟨⟨kb, xb⟩, hb⟩ := getElem?_of_lt (show j + 1 < Z.length by omega)
            have ha2 := hSg j _ ha
            have hb2 := hSg (j + 1) _ hb
            simp only at ha2 hb2
            obtain ⟨ga, ea⟩ := hsg _ (List.mem_of_getElem? ha)
            obtain ⟨gb, eb⟩ := hsg _ (List.mem_of_getElem? hb)
            have cA := Norm_C M xa hM
            have cB := Norm_C M xb hM
            rw [inn_good hred ga, show qN M xa = ka from congrArg Prod.fst ea] at cA
            rw [inn_good hred gb, show qN M xb = kb from congrArg Prod.fst eb] at cB
            have cC := rCompare_C xa xb
            have hlp := hlt j _ _ ha hb
            unfold ltP at hlp
            simp only at hlp
            generalize cmpL xa xb = cv at *
            (refine WpA_seq (WpA_sreg [] [] (by simp) fun K hK => ?_); simp (disch := omega) only [kc, prep1, Nat.reduceAdd, slI, Hm, opS_len, effR, ty_slice26, ls_len, effM, evBin, decT]; (with_reducible refine hK _ ?_))
            refine WpA_cond rfl (fun _ => WpA_skip ?_) (fun h => by simp at h <;> omega)
            refine WpA_seq (WpA_block ?_)
            (refine WpA_sreg [⟨6, _, _, _, cA⟩] [] (by simp) fun K hK => ?_; simp (disch := omega) only [kc, slI, sl1, tvI, CItem.a, prep1, Nat.reduceAdd, effM, ofConst, Value.oneCell', evBin, ej, wrapI, opS_indexAddr, effR, natOf_pos, ty_slice26, ls_get, ha2, fR, ty_sz29, packT, ty_agg29, opS_call, newS, effA, List.find?_cons, evAll, norm, CallRes.plain, rawTV, rawAV, normOk, noRefTV, noRefAV, renTV, renAV, opS_extract]; (with_reducible refine hK _ ?_))
            (refine WpA_sreg [⟨5, _, _, _, cB⟩] [] (by simp) fun K hK => ?_; simp (disch := omega) only [kc, slI, sl1, tvI, CItem.a, prep1, Nat.reduceAdd, opS_indexAddr, effR, natOf_pos, ty_slice26, ls_get, hb2, fR, ty_sz29, packT, ty_agg29, opS_call, newS, effA, List.find?_cons, evAll, norm, CallRes.plain, rawTV, rawAV, normOk, noRefTV, noRefAV, renTV, renAV, opS_extract, effM]; (with_reducible refine hK _ ?_))
            by_cases hq : ka = kb
            · (refine WpA_sdraw mixedA [⟨17, _, _, _, cC⟩] [] (by kernel_rfl) (by simp) fun K hK => ?_; simp (disch := omega) only [kc, sl1, CItem.a, prep1, Nat.reduceAdd, effM, evBin, decF, stS_guard, decT, ifT, ofConst, Value.oneCell', ej, wrapI, opS_indexAddr, effR, natOf_pos, ty_slice26, ls_get, ha2, fR, ty_sz29, packT, ty_agg29, hb2, opS_call, newS, effA, List.find?_cons, evAll, norm, CallRes.plain, rawTV, rawAV, normOk, noRefTV, noRefAV, renTV, renAV, opS_pick]; (with_reducible refine hK _ ?_))
              refine WpA_cond rfl (fun h => by simp at h) (fun _ => WpA_skip ?_)
              show WpA _ _ _ _
              ((refine WpA_lreg [] [] (by simp) fun K hK => ?_); simp (disch := omega) only [kc, prep1, Nat.reduceAdd, effM, ofConst, Value.oneCell', evBin, wrapI]; (with_reducible refine hK _ ?_))
              refine ⟨⟨j + 1, by omega⟩, by simp only; omega, Weak_sub trivial ?_⟩
              simp [wkL, okTV, okAV]
            · (refine WpA_sdraw mixedA [] [] (by kernel_rfl) (by simp) fun K hK => ?_; simp (disch := omega) only [kc, prep1, Nat.reduceAdd, effM, evBin, decF, stS_guard, ifT, ofConst, Value.oneCell', Option.map_none, opS_indexAddr, effR, opS_call, newS, effA, List.find?_nil, evAll, opS_pick]; (with_reducible refine hK _ ?_))
              refine WpA_cond rfl (fun h => by simp at h) (fun _ => WpA_skip ?_)
              show WpA _ _ _ _
              ((refine WpA_lreg [] [] (by simp) fun K hK => ?_); simp (disch := omega) only [kc, prep1, Nat.reduceAdd, effM, ofConst, Value.oneCell', evBin, wrapI]; (with_reducible refine hK _ ?_))
              refine ⟨⟨j + 1, by omega⟩, by simp only; omega, Weak_sub trivial ?_⟩
              simp [wkL, okTV, okAV]
          · (refine WpA_seq (WpA_sreg [] [] (by simp) fun K hK => ?_); simp (disch := omega) only [kc, prep1, Nat.reduceAdd, slI, Hm, opS_len, effR, ty_slice26, ls_len, effM, evBin, decF]; (with_reducible refine hK _ ?_))
            refine WpA_cond rfl (fun h => by simp at h <;> omega) (fun _ => WpA_exit ?_)
            show WpA _ _ _ _
            (refine WpA_sreg [⟨0, _, _, _, c5⟩] [] (by simp) fun K hK => ?_; simp (disch := omega) only [kc, CItem.a, prep1, opS_call, newS, effA, List.find?_cons, evAll, CallRes.plain, rawTV, rawAV, noRefTV, noRefAV, renTV, renAV]; (with_reducible refine hK _ ?_))
            (refine WpA_ret ⟨.inr rfl, ret_now rfl ?_ rfl⟩; simp (disch := omega) only [resA, Tryz.results4, resOne, List.getElem?_cons_succ, List.getElem?_cons_zero])
end Go.Proofs.YtobnpabndpmabaaGreat
namespace Go.Proofs.YtobnpabndpmabaaGreat
open Go.ChangeShapes Go.WideShapes Go.ChangeAt Go.RowKit
set_option maxRecDepth 100000 in
theorem vectorSortedOnce_lifted (os : Os) (started : os.Started) (H : Type) (enc : TypeId × Value → H) :
    ReturnsInHanded {} Tryz.checked os 4 .any (Rows.vectorSortedOnceSpec.pre6 enc Tryz.prog Tryz.f4 Rows.vectorSortedOnceRow.domain false) (Rows.vectorSortedOnceSpec.post enc Tryz.prog Tryz.f4 false true false false) := by
  refine returnsInHanded_of_change_sized (C := Tryz.checked) Tryz.ownKnob_ started (by kernel_rfl) Tryz.func4
    (ChangeSpec.witness6 (enc := enc) (C := Tryz.checked) false ⟨#[], #[.agg #[.int .u8 0, .int .u8 0, .slice none 0 0, .slice none 0 0], .slice none 0 0, .int .u8 0], []⟩ 8 (by kernel_rfl) (by kernel_rfl) (by kernel_rfl) (by kernel_rfl)) ?_
  intro W base args ds gs before hval0 hW hcnd hsz0 _
  have hval : ∀ (j : Nat) t v, Tryz.f4.params[j]? = some t → args[j]? = some v → Value.okWide Tryz.prog W .any base t v := hval0
  have hsz : (DataW.weightsEach Tryz.prog (Tryz.f4.params.toList ++ Rows.vectorSortedOnceSpec.plain.varTypes Tryz.prog) (ds ++ gs)).all (· ≤ reachBytes) = true := hsz0
  have hW' := hW
  obtain ⟨p, q, hA0, hV, rfl, hfz, hnd⟩ := hW
  have hA : DataW.TrodAll enc Tryz.prog W 0 (fun _ => true) true Tryz.f4.params.toList args.toList ds p := hA0
  rw [Tryz.params4] at hA hval hsz
  obtain ⟨v0, vs0, d0, ds0, p0, q0, hargs, rfl, rfl, h0, r0⟩ := trodAll_cons hA
  obtain ⟨v1, vs1, d1, ds1, p1, q1, rfl, rfl, rfl, h1, r1⟩ := trodAll_cons r0
  obtain ⟨v2, vs2, d2, ds2, p2, q2, rfl, rfl, rfl, h2, r2⟩ := trodAll_cons r1
  obtain ⟨rfl, rfl, rfl⟩ := trodAll_nil r2
  obtain rfl : args = #[v0, v1, v2] := by cases args; simp_all
  obtain ⟨rfl, rfl⟩ := trodVars_none hV
  have k0 := h0
  have lt0 : ∀ x ∈ p0, x.block < W.heap.size := by obtain ⟨m, hm⟩ := k0; exact DataW.trod_lt m _ _ _ hm
  obtain ⟨u00, u01, u02, u03, y00, y01, y02, y03, n0, rfl, rfl, rfl, q00, q01, q02, q03⟩ := Go.Joins.open_agg4 Tryz.underlying24 (by kernel_rfl) (by kernel_rfl) (hval 0 24 v0 rfl rfl) h0
  obtain ⟨dim0, rfl, hd0⟩ := open_cellU Tryz.underlying5 q00
  obtain ⟨kind0, rfl, hk0⟩ := open_cellU Tryz.underlying5 q01
  obtain ⟨L0, rL0, hL0⟩ := open_cell8 Tryz.underlying22 Tryz.underlying98 (by kernel_rfl) q02
  obtain ⟨B0, rB0, hB0⟩ := open_cell8 Tryz.underlying22 Tryz.underlying98 (by kernel_rfl) q03
  obtain ⟨a1, len1, cap1, rfl⟩ := okWide_slice Tryz.underlying25 (hval 1 25 v1 rfl rfl)
  have k1 := h1
  have lt1 : ∀ x ∈ p1, x.block < W.heap.size := by obtain ⟨m, hm⟩ := k1; exact DataW.trod_lt m _ _ _ hm
  obtain ⟨z1, rfl, g11, g12, g13, g14⟩ := open_rdM Tryz.underlying25 Tryz.underlying22 Tryz.underlying98 (by kernel_rfl) (by kernel_rfl) h1
  obtain ⟨a2, rfl, rfl, rfl, w2⟩ := open_int Tryz.underlying5 (hval 2 5 v2 rfl rfl) h2
  clear hA0 hval0 hsz0
  obtain ⟨bn, hbn⟩ : ∃ bn : Nat, a2 = (bn : Int) := ⟨a2.toNat, by have := wf_u8_bd w2; omega⟩
  have hw2 := wf_u8_bd w2
  subst hbn
  refine ((lawSortedOnce_C dim0 kind0 L0 B0 z1 bn hL0 hd0 hk0 (fun r hr z hz => wf_i8_bd (g14 r hr z hz)) (by unfold maxLen at g12; omega) (by omega)).law (vs := #[.agg #[.int .u8 (dim0 : Int), .int .u8 (kind0 : Int), u02, u03], .slice a1 z1.length cap1, .int .u8 (bn : Int)]) rfl (argsT (vs := [.agg #[.int .u8 (dim0 : Int), .int .u8 (kind0 : Int), u02, u03], .slice a1 z1.length cap1, .int .u8 (bn : Int)]) rfl (fun j t v ht hv => by
    match j, ht, hv with
    | 0, ht, hv => simp at ht hv; subst ht; subst hv; exact rel_L rL0 rB0
    | 1, ht, hv => simp at ht hv; subst ht; subst hv; exact rdM8_rep g11 (by unfold maxLen at g12; omega) g13
    | 2, ht, hv => simp at ht hv; subst ht; subst hv; exact Rep.raw _ rfl
    | j + 3, ht, hv => simp at ht))).mono fun e W' ⟨he, bel0⟩ => ?_
  have bel : Below W.heap.size W W' := bel0
  subst he
  exact ⟨_, rfl, _, _, _, [], _, [], hW', trodAll_mk1 (shut_bool Tryz.underlying4 _), (trodAll_cons_mk (Below.trod Tryz.laidOut_ (by kernel_rfl) (of_decide_eq_true (by kernel_rfl)) k0 bel lt0) (trodAll_cons_mk (Below.trod Tryz.laidOut_ (by kernel_rfl) (of_decide_eq_true (by kernel_rfl)) k1 bel lt1) (trodAll_cons_mk (shut_int Tryz.underlying5 w2) trodAll_mk0))), rfl, bel.frame _, fun h => by cases h⟩
theorem vectorSortedOnce_holds : Rows.VectorSortedOnceSaid :=
  OpenClaim.holds_of_wide 4 Tryz.f4 rfl rfl rfl rfl rfl rfl rfl ⟨rfl, rfl, rfl, rfl, rfl⟩ rfl rfl rfl rfl rfl (by kernel_rfl) Tryz.func4 (by kernel_rfl)
    (of_decide_eq_true (by kernel_rfl)) (by unfold Func.isWrapper; first | (rw [if_pos (by decide +kernel)]; kernel_rfl) | (rw [if_neg (by decide +kernel)]; exact ⟨rfl, rfl⟩))
    (fun os started H enc _ => vectorSortedOnce_lifted os started H enc)
#print axioms vectorSortedOnce_holds
end Go.Proofs.YtobnpabndpmabaaGreat
