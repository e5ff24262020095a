/-
  Part 10 of a proof (walks and plain facts).
-/
import Derived.Test.YtennjcjjegbhgaaGreatP08
import Derived.Lib.SliceRun
import Derived.Shelf.SlSortCmp.WholeK
import Derived.Ground.SlsfProg
import Derived.Test.YtennjcjjegbhgaaGreatProg
import Derived.Deep.RegionHeld3
import Derived.Deep.RegionLaw
import Derived.Laws.EntriesVeiled
import Derived.ProofKit
import Derived.OpenShut
import Derived.ShutString
import Derived.ChangeOld
import Derived.Below
import Derived.SizedLaws

namespace Go.Proofs.YtennjcjjegbhgaaGreat
open Go.RowKit

theorem ext_keep {w w' : World} (h : Ext w w') : Keep (fun _ => False) w w' := ⟨h.os, h.tape, h.output, h.size, fun k hk _ => h.block k hk⟩
theorem keep_ext {w w' : World} (h : Keep (fun _ => False) w w') : Ext w w' := ⟨h.os, h.tape, h.output, h.size, fun k hk => h.block k hk (fun h => h)⟩
theorem inv_nil {w w' : World} {X : Nat → Prop} (h : Ext w w') (hX : ∀ b, X b → b < w.heap.size) : Inv w (fun _ => False) X (famH 0 []) (fun _ _ => none) w' := by
  have e : ∀ a, famH 0 [] a = [] := fun a => by unfold famH; split <;> rfl
  refine ⟨ext_keep h, fun a r o ho => ?_, fun a r a' r' o o' b c c' ho => ?_, fun a r o b c ho => ?_, fun b hb => Nat.lt_of_lt_of_le (hX b hb) h.size, fun a r o ho => ?_⟩ <;> (rw [e] at ho; simp at ho)

/-- A contract of the older kind whose result holds no address. -/
theorem callC_ext {P : Program} {f : FuncId} {args : List TV} {r : TV} (hc : callable P f = true) (h : ∀ (X : Nat → Prop) (w : World) (vs : Array Value), (∀ b, X b → b < w.heap.size) → vs.size = args.length →
    (∀ (j : Nat) t, args[j]? = some t → ∃ v : Value, vs[j]? = some v ∧ t.rel (fun _ _ => none) (fun _ => []) X w v) → Calls P f vs w fun e w' => ∃ v, e = .returned v ∧ (∀ ρ H Y, r.rel ρ H Y w' v) ∧ Ext w w') : CallC P f args ⟨[], r⟩ :=
  ⟨hc, fun X w vs hX hvs ha => (h X w vs hX hvs ha).mono fun e w' ⟨v, h1, h2, h3⟩ => ⟨v, h1, fun _ _ => none, inv_nil h3 hX, h2 _ _ _⟩⟩
/-- A contract of the machine, from a world in which the arguments read as it says. -/
theorem CallC.calls {P : Program} {f : FuncId} {args : List TV} {r : TV} (h : CallC P f args ⟨[], r⟩) {w : World} {vs : Array Value} (hvs : vs.size = args.length)
    (ha : ∀ (j : Nat) t, args[j]? = some t → ∃ v : Value, vs[j]? = some v ∧ t.rel (fun _ _ => none) (fun _ => []) (fun _ => False) w v) : Calls P f vs w fun e w' => ∃ v, e = .returned v ∧ (∃ ρ H X, r.rel ρ H X w' v) ∧ Ext w w' :=
  (h.2 (fun _ => False) w vs (fun b h => h.elim) hvs ha).mono fun e w' ⟨v, h1, ρ, h2, h3⟩ => ⟨v, h1, ⟨_, _, _, h3⟩, keep_ext h2.keep⟩

theorem rel_i64 {ρ : Rho} {H : OH} {X : Nat → Prop} {w : World} (v : Int) (b : Bool) : (tvI v b).rel ρ H X w (.tuple #[.int .i64 v, .bool b]) := by
  refine ⟨#[.int .i64 v, .bool b], rfl, rfl, fun j c cs hj => ?_⟩
  match j, hj with
  | 0, hj =>
    simp at hj
    obtain ⟨rfl, rfl⟩ := hj
    exact ⟨_, rfl, .inr ⟨rfl, _, rfl, Rep.raw _ rfl⟩⟩
  | 1, hj =>
    simp at hj
    obtain ⟨rfl, rfl⟩ := hj
    exact ⟨_, rfl, .inr ⟨rfl, _, rfl, Rep.raw _ rfl⟩⟩
  | j + 2, hj => simp at hj
theorem rel_bool {ρ : Rho} {H : OH} {X : Nat → Prop} {w : World} (b : Bool) : (TV.raw (.bool b)).rel ρ H X w (.bool b) := Rep.raw _ rfl

theorem rep_raw {X : Nat → Prop} {w : World} {u v : Value} (h : Rep X w (.raw u) v) : v = u := by cases h; rfl
theorem rep_rdI {X : Nat → Prop} {w : World} {l : List Int} {v : Value} (h : Rep X w (.sl (ls fI l)) v) : ∃ A c, v = .slice A l.length c ∧ l.length ≤ c ∧ l.length ≤ 9223372036854775807 ∧ RdI .i64 w A l := by
  generalize hx : PV.sl (ls fI l) = x at h
  cases h with
  | raw v h => cases hx
  | ptr b off cs f hX hb hc hr => cases hx
  | nil a c =>
    injection hx with hx
    have hl : l = [] := by simpa [ls] using hx
    subst hl
    exact ⟨a, c, rfl, Nat.zero_le _, by simp, RdI.nil _ _ _⟩
  | sl b off es cap xs f hX hb hes hcap hm hc hr =>
    injection hx with hx
    subst hx
    rw [ls_len] at hcap hm
    refine ⟨some ⟨b, off, none⟩, cap, by rw [ls_len], hcap, hm, fun hne => ⟨b, off, rfl, fun i x hx => ?_⟩⟩
    rw [List.getElem?_map] at hx
    obtain ⟨z, hz, rfl⟩ := Option.map_eq_some_iff.1 hx
    have h1 : (ls fI l)[i]? = some (fI z) := by rw [ls_get, hz]; rfl
    have he : es = 1 := by rw [← hes _ (List.mem_of_getElem? h1)]; rfl
    subst he
    have h2 := hc i _ 0 _ h1 rfl
    have h3 := rep_raw (hr i _ 0 _ h1 rfl)
    rw [h3, Nat.mul_one, Nat.add_zero] at h2
    exact h2
theorem rep_rdM {X : Nat → Prop} {w : World} {M : List (List Int)} {v : Value} (h : Rep X w (.sl (ls (fR fI) M)) v) : ∃ A c, v = .slice A M.length c ∧ M.length ≤ c ∧ M.length ≤ 9223372036854775807 ∧ RdM .i64 w A M := by
  generalize hx : PV.sl (ls (fR fI) M) = x at h
  cases h with
  | raw v h => cases hx
  | ptr b off cs f hX hb hc hr => cases hx
  | nil a c =>
    injection hx with hx
    have hl : M = [] := by simpa [ls] using hx
    subst hl
    exact ⟨a, c, rfl, Nat.zero_le _, by simp, RdM.nil _ _ _⟩
  | sl b off es cap xs f hX hb hes hcap hm hc hr =>
    injection hx with hx
    subst hx
    rw [ls_len] at hcap hm
    refine ⟨some ⟨b, off, none⟩, cap, by rw [ls_len], hcap, hm, fun hne => ⟨b, off, rfl, fun i r hi => ?_⟩⟩
    have h1 : (ls (fR fI) M)[i]? = some (fR fI r) := by rw [ls_get, hi]; rfl
    have he : es = 1 := by rw [← hes _ (List.mem_of_getElem? h1)]; rfl
    subst he
    have h2 := hc i _ 0 _ h1 rfl
    have h3 := rep_rdI (hr i _ 0 _ h1 rfl)
    rw [Nat.mul_one, Nat.add_zero] at h2
    exact ⟨_, h2, h3⟩
theorem rdI_rep {w : World} {l : List Int} {A : Option Addr} {c : Nat} (hl : l.length ≤ c) (hm : l.length ≤ 9223372036854775807) (h : RdI .i64 w A l) : Rep (fun _ => False) w (.sl (ls fI l)) (.slice A l.length c) := by
  cases l with
  | nil => exact Rep.nil _ _
  | cons z0 l0 =>
    obtain ⟨b, off, rfl, hc⟩ := h (by simp)
    have h0 := hc 0 (.int .i64 z0) (by simp)
    have hb : b < w.heap.size := cell_lt h0
    have := Rep.sl (X := fun _ => False) (w := w) b off 1 c (ls fI (z0 :: l0)) (fun i _ => .int .i64 ((z0 :: l0).getD i 0)) (fun h => h) hb (fun e he => by
      obtain ⟨z, _, rfl⟩ := List.mem_map.1 he
      rfl) (by rw [ls_len]; exact hl) (by rw [ls_len]; exact hm) (fun i e j x he hx => by
      rw [ls_get] at he
      obtain ⟨z, hz, rfl⟩ := Option.map_eq_some_iff.1 he
      cases j with
      | succ j => simp [fI] at hx
      | zero =>
        have := hc i (.int .i64 z) (by rw [List.getElem?_map, hz]; rfl)
        simp only [Nat.mul_one, Nat.add_zero, List.getD_eq_getElem?_getD, hz, Option.getD_some]
        exact this) (fun i e j x he hx => by
      rw [ls_get] at he
      obtain ⟨z, hz, rfl⟩ := Option.map_eq_some_iff.1 he
      cases j with
      | succ j => simp [fI] at hx
      | zero =>
        simp [fI] at hx
        subst hx
        simp only [List.getD_eq_getElem?_getD, hz, Option.getD_some]
        exact Rep.raw _ rfl)
    rw [ls_len] at this
    exact this
theorem rdM_rep {w : World} {M : List (List Int)} {A : Option Addr} {c : Nat} (hl : M.length ≤ c) (hm : M.length ≤ 9223372036854775807) (h : RdM .i64 w A M) : Rep (fun _ => False) w (.sl (ls (fR fI) M)) (.slice A M.length c) := by
  cases M with
  | nil => exact Rep.nil _ _
  | cons r0 M0 =>
    obtain ⟨b, off, rfl, hc⟩ := h (by simp)
    obtain ⟨v0, h0, _⟩ := hc 0 r0 rfl
    have hb : b < w.heap.size := cell_lt h0
    have := Rep.sl (X := fun _ => False) (w := w) b off 1 c (ls (fR fI) (r0 :: M0)) (fun i _ => (w.cell? ⟨b, off + i, none⟩).getD undef) (fun h => h) hb (fun e he => by
      obtain ⟨z, _, rfl⟩ := List.mem_map.1 he
      rfl) (by rw [ls_len]; exact hl) (by rw [ls_len]; exact hm) (fun i e j x he hx => by
      rw [ls_get] at he
      obtain ⟨r, hr, rfl⟩ := Option.map_eq_some_iff.1 he
      cases j with
      | succ j => simp [fR] at hx
      | zero =>
        obtain ⟨v, h1, h2⟩ := hc i r hr
        simp only [Nat.mul_one, Nat.add_zero, h1, Option.getD_some]) (fun i e j x he hx => by
      rw [ls_get] at he
      obtain ⟨r, hr, rfl⟩ := Option.map_eq_some_iff.1 he
      cases j with
      | succ j => simp [fR] at hx
      | zero =>
        simp [fR] at hx
        subst hx
        obtain ⟨v, h1, B, c', rfl, h3, h4, h5⟩ := hc i r hr
        simp only [h1, Option.getD_some]
        exact rdI_rep h3 h4 h5)
    rw [ls_len] at this
    exact this

/-! The program's functions. -/
theorem arg0 {args : List TV} {vs : Array Value} {X : Nat → Prop} {w : World} (h : ∀ (j : Nat) t, args[j]? = some t → ∃ v : Value, vs[j]? = some v ∧ t.rel (fun _ _ => none) (fun _ => []) X w v) {j : Nat} {x : PV} (hj : args[j]? = some (.one (.p x))) : ∃ v : Value, vs[j]? = some v ∧ Rep X w x v := h j _ hj

theorem pInner_C (M : List (List Int)) (x y : List Int) : CallC Tryz.prog 20 [slI M, sl1 x, sl1 y] ⟨[], innT M x y⟩ := by
  refine callC_ext (by kernel_rfl) fun X w vs hX hvs ha => ?_
  obtain ⟨v0, e0, r0⟩ := arg0 ha (j := 0) rfl
  obtain ⟨v1, e1, r1⟩ := arg0 ha (j := 1) rfl
  obtain ⟨v2, e2, r2⟩ := arg0 ha (j := 2) rfl
  obtain ⟨A, c, rfl, hc, hl, hR⟩ := rep_rdM r0
  obtain ⟨B, d, rfl, hd, hlx, hx⟩ := rep_rdI r1
  obtain ⟨C, d', rfl, hd', hly, hy⟩ := rep_rdI r2
  obtain rfl : vs = #[.slice A M.length c, .slice B x.length d, .slice C y.length d'] := by
    apply Array.ext_getElem?
    intro j
    match j with
    | 0 => exact e0
    | 1 => exact e1
    | 2 => exact e2
    | j + 3 => rw [Array.getElem?_eq_none (by simp at hvs; omega)]; rfl
  obtain ⟨v, b, g1, g2⟩ := innT_cases M x y
  refine (inner_any A B C c d d' M x y w hR hx hy hl hc hlx hly).mono fun e w' ⟨h1, h2⟩ => ?_
  rw [g2] at h1
  rw [g1]
  exact ⟨_, h1, fun _ _ _ => rel_i64 v b, h2⟩
theorem pNorm_C (M : List (List Int)) (x : List Int) : CallC Tryz.prog 18 [slI M, sl1 x] ⟨[], innT M x x⟩ := by
  refine callC_ext (by kernel_rfl) fun X w vs hX hvs ha => ?_
  obtain ⟨v0, e0, r0⟩ := arg0 ha (j := 0) rfl
  obtain ⟨v1, e1, r1⟩ := arg0 ha (j := 1) rfl
  obtain ⟨A, c, rfl, hc, hl, hR⟩ := rep_rdM r0
  obtain ⟨B, d, rfl, hd, hlx, hx⟩ := rep_rdI r1
  obtain rfl : vs = #[.slice A M.length c, .slice B x.length d] := by
    apply Array.ext_getElem?
    intro j
    match j with
    | 0 => exact e0
    | 1 => exact e1
    | j + 2 => rw [Array.getElem?_eq_none (by simp at hvs; omega)]; rfl
  obtain ⟨v, b, g1, g2⟩ := innT_cases M x x
  refine (norm_any A B c d M x w hR hx hl hc hlx).mono fun e w' ⟨h1, h2⟩ => ?_
  rw [g2] at h1
  rw [g1]
  exact ⟨_, h1, fun _ _ _ => rel_i64 v b, h2⟩
theorem pValid_C (M : List (List Int)) (x : List Int) : CallC Tryz.prog 15 [slI M, sl1 x] ⟨[], .raw (.bool (validM M x))⟩ := by
  refine callC_ext (by kernel_rfl) fun X w vs hX hvs ha => ?_
  obtain ⟨v0, e0, r0⟩ := arg0 ha (j := 0) rfl
  obtain ⟨v1, e1, r1⟩ := arg0 ha (j := 1) rfl
  obtain ⟨A, c, rfl, hc, hl, hR⟩ := rep_rdM r0
  obtain ⟨B, d, rfl, hd, hlx, hx⟩ := rep_rdI r1
  obtain rfl : vs = #[.slice A M.length c, .slice B x.length d] := by
    apply Array.ext_getElem?
    intro j
    match j with
    | 0 => exact e0
    | 1 => exact e1
    | j + 2 => rw [Array.getElem?_eq_none (by simp at hvs; omega)]; rfl
  refine (valid_any A B c d M x w hR hx hl hc hlx).mono fun e w' ⟨h1, h2⟩ => ?_
  exact ⟨_, h1, fun _ _ _ => rel_bool _, h2⟩
end Go.Proofs.YtennjcjjegbhgaaGreat

/-
  The walks of the closure of (*sorter).sort and of slices.CompactFunc at keyed values.
-/
namespace Go.Proofs.YtennjcjjegbhgaaGreat
open Go.RowKit

theorem ext_grow (w : World) (q : Nat) (os : Array Obj) : Ext w (Sort.grow (w.drewN q) os) :=
  ⟨rfl, rfl, rfl, by show w.heap.size ≤ (w.heap ++ os).size; simp, fun k hk => by show (w.heap ++ os)[k]? = w.heap[k]?; rw [Array.getElem?_append_left hk]⟩

/-- A norm and a vector, with where the vector lies. -/
structure NItem where
  key : Int
  vals : List Int
  at_ : Option Addr
  cap : Nat
  deriving Inhabited

def NItem.val (it : NItem) : Value := .slice it.at_ it.vals.length it.cap
def NItem.agg (it : NItem) : Value := .agg #[.int .i64 it.key, .slice it.at_ it.vals.length it.cap]
def cmpIt (a b : NItem) : Int := cmpN a.key a.vals b.key b.vals
def eqIt (a b : NItem) : Bool := cmpIt a b == 0

/-- The vector of an item lies in w, outside block g. -/
structure ItemOk (w : World) (g : Nat) (it : NItem) : Prop where
  rd : RdI .i64 w it.at_ it.vals
  ne : ∀ p, it.at_ = some p → p.block ≠ g
  le : it.vals.length ≤ 9223372036854775807
theorem ItemOk.ext {w w' : World} {g : Nat} {it : NItem} (h : ItemOk w g it) (e : Ext w w') : ItemOk w' g it := ⟨h.rd.ext e, h.ne, h.le⟩
theorem RdI.setOther {k : IntKind} {w : World} {A : Option Addr} {zs : List Int} {g : Nat} (h : RdI k w A zs) (hne : ∀ p, A = some p → p.block ≠ g) (p : Addr) (hp : p.block = g) (v : Value) : RdI k (w.setCell p v) A zs := fun hn => by
  obtain ⟨b, off, rfl, hc⟩ := h hn
  refine ⟨b, off, rfl, fun i x hx => ?_⟩
  rw [World.cell?_setCell_other _ _ _ _ (fun e => by have := hne _ rfl; have e2 := congrArg Addr.block e; simp at e2 this; omega)]
  exact hc i x hx
theorem ItemOk.setCell {w : World} {g : Nat} {it : NItem} (h : ItemOk w g it) (p : Addr) (hp : p.block = g) (v : Value) : ItemOk (w.setCell p v) g it := ⟨h.rd.setOther h.ne p hp v, h.ne, h.le⟩

theorem compareIt_any (a b : NItem) (w : World) (g : Nat) (ha : ItemOk w g a) (hb : ItemOk w g b) :
    Calls Tryz.prog 51 #[a.agg, b.agg] w fun e w' => e = .returned (.int .i64 (cmpIt a b)) ∧ Ext w w' :=
  (compareByNorm_any a.key b.key a.at_ b.at_ a.cap b.cap a.vals b.vals w ha.rd hb.rd ha.le hb.le).mono fun _ _ ⟨he, q, os, hw⟩ => ⟨he, by rw [hw]; exact ext_grow w q os⟩

set_option maxRecDepth 100000 in
set_option maxHeartbeats 1000000 in
/-- The closure: it reads the order out of the sorter (at sx) through the box (at bx). -/
theorem sortEq_any (a b : NItem) (bx sx so : Nat) (w : World) (g : Nat) (ha : ItemOk w g a) (hb : ItemOk w g b) (h1 : w.cell? ⟨bx, 0, none⟩ = some (.pointer (some ⟨sx, so, none⟩))) (h2 : w.cell? ⟨sx, so + 1, none⟩ = some (.func (Fn.func 51) #[] #[])) :
    Calls Tryz.prog 99 #[a.agg, b.agg, .pointer (some ⟨bx, 0, none⟩)] w fun e w' => e = .returned (.bool (eqIt a b)) ∧ Ext w w' := by
  have HA := Lib.hid ha
  have HB := Lib.hid hb
  clear ha hb
  unfold NItem.agg
  go_enter Tryz.func99, Tryz.ntmps99
  go_wp2_with fail
  obtain ⟨c1, c2, c3, c4, he, hg⟩ := two_boxes w (.int .i64 a.key) (.slice a.at_ a.vals.length a.cap) (.int .i64 b.key) (.slice b.at_ b.vals.length b.cap) 83
  have h1' := he.cell h1
  have h2' := he.cell h2
  have HE := Lib.hid he
  clear he hg h1 h2
  generalize (w.alloc (.cells #[.int .i64 a.key, .slice a.at_ a.vals.length a.cap] 83)).alloc (.cells #[.int .i64 b.key, .slice b.at_ b.vals.length b.cap] 83) = w2 at *
  refine region_still_tail 6 (by kernel_rfl) (by kernel_rfl) ?_
  simp only [List.take_succ_cons, List.take_zero, List.drop_succ_cons, List.drop_zero]
  generalize w2.drew = w3 at *
  iterate 6 still_step
  refine wpStill_nil ?_
  have HC := Lib.hid (compareIt_any a b w3 g (HA.out.ext HE.out) (HB.out.ext HE.out))
  unfold NItem.agg at HC
  go_wp2_with fail
  refine HC.out.mono ?_
  rintro e w' ⟨rfl, he⟩
  have HE2 := Lib.hid (HE.out.trans he)
  clear he
  go_wp2_with fail
  go_ret
  exact ⟨rfl, HE2.out⟩

end Go.Proofs.YtennjcjjegbhgaaGreat

/-
  Plain facts about the order of items: by the norm, then lexicographically.
-/
namespace Go.Proofs.YtennjcjjegbhgaaGreat
open Go.RowKit

theorem cmpL_self : ∀ x : List Int, cmpL x x = 0
  | [] => rfl
  | a :: x => by simp [cmpL, cmpL_self x]
theorem cmpL_eq : ∀ {x y : List Int}, cmpL x y = 0 → x = y
  | [], [], _ => rfl
  | [], _ :: _, h => by simp [cmpL] at h
  | _ :: _, [], h => by simp [cmpL] at h
  | a :: x, b :: y, h => by
    unfold cmpL at h
    split at h
    · omega
    · split at h
      · omega
      · rw [cmpL_eq h, show a = b from by omega]
theorem cmpL_range : ∀ (x y : List Int), cmpL x y = -1 ∨ cmpL x y = 0 ∨ cmpL x y = 1
  | [], [] => by simp [cmpL]
  | [], _ :: _ => by simp [cmpL]
  | _ :: _, [] => by simp [cmpL]
  | a :: x, b :: y => by
    have := cmpL_range x y
    unfold cmpL
    split
    · simp
    · split
      · simp
      · exact this
theorem cmpL_anti : ∀ (x y : List Int), cmpL y x = - cmpL x y
  | [], [] => by simp [cmpL]
  | [], _ :: _ => by simp [cmpL]
  | _ :: _, [] => by simp [cmpL]
  | a :: x, b :: y => by
    have := cmpL_anti x y
    unfold cmpL
    by_cases h1 : a < b
    · rw [if_pos h1, if_neg (by omega), if_pos h1]; rfl
    · by_cases h2 : b < a
      · rw [if_pos h2, if_neg h1, if_pos h2]
      · rw [if_neg h2, if_neg h1, if_neg h1, if_neg h2, this]
theorem cmpL_trans : ∀ {x y z : List Int}, cmpL x y < 0 → cmpL y z < 0 → cmpL x z < 0
  | [], [], _, h, _ => by simp [cmpL] at h
  | _ :: _, [], _, h, _ => by simp [cmpL] at h
  | [], _ :: _, [], _, h => by simp [cmpL] at h
  | [], _ :: _, _ :: _, _, _ => by simp [cmpL]
  | _ :: _, _ :: _, [], _, h => by simp [cmpL] at h
  | a :: x, b :: y, c :: z, h1, h2 => by
    unfold cmpL at h1 h2 ⊢
    by_cases p1 : a < b
    · by_cases p2 : b < c
      · rw [if_pos (by omega)]; omega
      · rw [if_neg p2] at h2
        by_cases p3 : c < b
        · rw [if_pos p3] at h2; omega
        · rw [if_pos (by omega)]; omega
    · rw [if_neg p1] at h1
      by_cases p3 : b < a
      · rw [if_pos p3] at h1; omega
      · rw [if_neg p3] at h1
        by_cases p2 : b < c
        · rw [if_pos (by omega)]; omega
        · rw [if_neg p2] at h2
          by_cases p4 : c < b
          · rw [if_pos p4] at h2; omega
          · rw [if_neg p4] at h2
            rw [if_neg (by omega), if_neg (by omega)]
            exact cmpL_trans h1 h2

theorem cmpN_eq (k1 : Int) (x : List Int) (k2 : Int) (y : List Int) : cmpN k1 x k2 y = if k1 < k2 then -1 else if k2 < k1 then 1 else cmpL x y := by
  have hr := cmpL_range x y
  unfold cmpN orL orL orL cmpI
  by_cases h1 : k1 < k2
  · simp [h1]
  · by_cases h2 : k2 < k1
    · simp [h1, h2]
    · simp [h1, h2]
      intro h; exact h.symm
theorem cmpN_lt {k1 k2 : Int} {x y : List Int} : cmpN k1 x k2 y < 0 ↔ k1 < k2 ∨ k1 = k2 ∧ cmpL x y < 0 := by
  rw [cmpN_eq]
  by_cases h1 : k1 < k2
  · rw [if_pos h1]; omega
  · by_cases h2 : k2 < k1
    · rw [if_neg h1, if_pos h2]; omega
    · rw [if_neg h1, if_neg h2]; omega
theorem cmpN_zero {k1 k2 : Int} {x y : List Int} : cmpN k1 x k2 y = 0 ↔ k1 = k2 ∧ x = y := by
  rw [cmpN_eq]
  by_cases h1 : k1 < k2
  · rw [if_pos h1]; omega
  · by_cases h2 : k2 < k1
    · rw [if_neg h1, if_pos h2]; omega
    · rw [if_neg h1, if_neg h2]
      constructor
      · intro h; exact ⟨by omega, cmpL_eq h⟩
      · rintro ⟨_, rfl⟩; exact cmpL_self _

theorem ltIt_iff {α : Type} (f : α → NItem) (x y : α) : ltOf (fun a b => cmpIt (f a) (f b)) x y = true ↔ (f x).key < (f y).key ∨ (f x).key = (f y).key ∧ cmpL (f x).vals (f y).vals < 0 := by
  unfold ltOf cmpIt
  rw [decide_eq_true_iff, cmpN_lt]
theorem swoIt {α : Type} (f : α → NItem) : Sort.SWO (ltOf fun a b => cmpIt (f a) (f b)) where
  irrefl x := by
    rw [← Bool.not_eq_true, ltIt_iff, cmpL_self]; omega
  trans x y z h1 h2 := by
    rw [ltIt_iff] at *
    rcases h1 with h1 | ⟨h1, h1'⟩ <;> rcases h2 with h2 | ⟨h2, h2'⟩
    · omega
    · omega
    · omega
    · exact .inr ⟨by omega, cmpL_trans h1' h2'⟩
  ntrans x y z h1 h2 := by
    rw [← Bool.not_eq_true, ltIt_iff] at *
    intro h3
    rcases h3 with h3 | ⟨h3, h3'⟩
    · by_cases e1 : (f x).key < (f y).key
      · exact h1 (.inl e1)
      · exact h2 (.inl (by omega))
    · by_cases e1 : (f x).key < (f y).key
      · exact h1 (.inl e1)
      · by_cases e2 : (f y).key < (f z).key
        · exact h2 (.inl e2)
        · have q1 : ¬ cmpL (f x).vals (f y).vals < 0 := fun h => h1 (.inr ⟨by omega, h⟩)
          have q2 : ¬ cmpL (f y).vals (f z).vals < 0 := fun h => h2 (.inr ⟨by omega, h⟩)
          have a1 := cmpL_anti (f x).vals (f y).vals
          have a2 := cmpL_anti (f y).vals (f z).vals
          rcases cmpL_range (f x).vals (f y).vals with r | r | r
          · omega
          · rw [cmpL_eq r] at h3'; exact q2 h3'
          · rcases cmpL_range (f y).vals (f z).vals with s | s | s
            · omega
            · rw [← cmpL_eq s] at h3'; exact q1 h3'
            · have := cmpL_trans (x := (f z).vals) (y := (f y).vals) (z := (f x).vals) (by omega) (by omega)
              have a3 := cmpL_anti (f x).vals (f z).vals
              omega

end Go.Proofs.YtennjcjjegbhgaaGreat

/-
  The walk of slices.CompactFunc at keyed values.
-/
namespace Go.Proofs.YtennjcjjegbhgaaGreat
open Go.RowKit

/-- Block g holds the items of L, two cells each. -/
def Lst (w : World) (g N : Nat) (L : List NItem) : Prop :=
  ∃ f, w.rowIs g 83 N f ∧ L.length * 2 ≤ N ∧ ∀ j it, L[j]? = some it → f (j * 2) = .int .i64 it.key ∧ f (j * 2 + 1) = it.val
theorem Lst.ext {w w' : World} {g N : Nat} {L : List NItem} (h : Lst w g N L) (e : Ext w w') : Lst w' g N L := by
  obtain ⟨f, h1, h2, h3⟩ := h
  exact ⟨f, rowIs_ext h1 e, h2, h3⟩
theorem Lst.cell0 {w : World} {g N : Nat} {L : List NItem} (h : Lst w g N L) {j : Nat} {it : NItem} (hj : L[j]? = some it) : w.cell? ⟨g, j * 2, none⟩ = some (.int .i64 it.key) := by
  obtain ⟨f, h1, h2, h3⟩ := h
  have := (List.getElem?_eq_some_iff.1 hj).1
  rw [h1.cell (by omega), (h3 j it hj).1]
theorem Lst.cell1 {w : World} {g N : Nat} {L : List NItem} (h : Lst w g N L) {j : Nat} {it : NItem} (hj : L[j]? = some it) : w.cell? ⟨g, j * 2 + 1, none⟩ = some (.slice it.at_ it.vals.length it.cap) := by
  obtain ⟨f, h1, h2, h3⟩ := h
  have := (List.getElem?_eq_some_iff.1 hj).1
  rw [h1.cell (by omega), (h3 j it hj).2]; rfl
theorem Lst.frozen {w : World} {g N : Nat} {L : List NItem} (h : Lst w g N L) (j : Nat) : w.frozen? ⟨g, j, none⟩ = false := by
  obtain ⟨f, h1, h2, h3⟩ := h
  exact h1.frozen j
theorem Lst.set {w : World} {g N : Nat} {L : List NItem} (h : Lst w g N L) {i : Nat} (hi : i < L.length) (it : NItem) :
    Lst ((w.setCell ⟨g, i * 2, none⟩ (.int .i64 it.key)).setCell ⟨g, i * 2 + 1, none⟩ (.slice it.at_ it.vals.length it.cap)) g N (L.set i it) := by
  obtain ⟨f, h1, h2, h3⟩ := h
  refine ⟨_, (h1.set (i * 2) _).set (i * 2 + 1) _, by simpa using h2, fun j it' hj => ?_⟩
  rw [List.getElem?_set] at hj
  by_cases e : i = j
  · subst e
    rw [if_pos rfl, if_pos hi] at hj
    cases hj
    constructor
    · rw [if_neg (by omega), if_pos rfl]
    · rw [if_pos rfl]; rfl
  · rw [if_neg e] at hj
    obtain ⟨q1, q2⟩ := h3 j it' hj
    constructor
    · rw [if_neg (by omega), if_neg (by omega), q1]
    · rw [if_neg (by omega), if_neg (by omega), q2]
/-- The first items stay where the cells behind them turn. -/
theorem Lst.take {w : World} {g N : Nat} {L : List NItem} (h : Lst w g N L) (i : Nat) : Lst w g N (L.take i) := by
  obtain ⟨f, h1, h2, h3⟩ := h
  refine ⟨f, h1, by rw [List.length_take]; omega, fun j it hj => ?_⟩
  rw [List.getElem?_take] at hj
  split at hj
  · exact h3 j it hj
  · cases hj

theorem setCells_row {g t N : Nat} : ∀ (vs : List Value) (o : Nat) (w : World) (f : Nat → Value), w.rowIs g t N f → ∃ f', (w.setCells g o vs).rowIs g t N f' ∧ (∀ j, j < o → f' j = f j) ∧ ∀ k, k ≠ g → (w.setCells g o vs).heap[k]? = w.heap[k]?
  | [], o, w, f, h => ⟨f, h, fun _ _ => rfl, fun _ _ => rfl⟩
  | v :: r, o, w, f, h => by
    obtain ⟨f', h1, h2, h3⟩ := setCells_row r (o + 1) (w.setCell ⟨g, o, none⟩ v) _ (h.set o v)
    refine ⟨f', h1, fun j hj => ?_, fun k hk => ?_⟩
    · rw [h2 j (by omega), if_neg (by omega)]
    · show ((w.setCell ⟨g, o, none⟩ v).setCells g (o + 1) r).heap[k]? = _
      rw [h3 k hk, Below.heap_setCell _ _ _ _ hk]

/-- What CompactFunc keeps behind prev: the elements that differ from the one ahead of them. -/
def compGo (prev : NItem) : List NItem → List NItem
  | [] => []
  | b :: l => if eqIt b prev then compGo b l else b :: compGo b l
def compact : List NItem → List NItem
  | [] => []
  | a :: l => a :: compGo a l

theorem run_clear_agg {P : Program} (w : World) (t e ty : TypeId) (z : Value) (ht : P.underlying t = some (.slice e)) (hv : ∀ w, (zeroValue e).run P w = .ok z w) (h1 : ∀ v ∈ z.cells, v.oneCell' = true) (hz : 0 < z.cells.size) (b o n c : Nat) (hn : 0 < n)
    (hc : ∀ j, j < n * z.cells.size → (w.cell? ⟨b, o + j, none⟩).isSome = true) (hf : ∀ j, j < n * z.cells.size → w.frozen? ⟨b, o + j, none⟩ = false) :
    (Builtin.clear_ #[t] ty #[.slice (some ⟨b, o, none⟩) n c]).run P w = .ok (.tuple #[]) (w.setCells b o (Builtin.zeroCells z.cells n).toList) := by
  have hlen : (Builtin.zeroCells z.cells n).toList.length = n * z.cells.size := by simp [Builtin.zeroCells]
  have hst := run_storeCells_cells (P := P) b o (Builtin.zeroCells z.cells n).toList 0 w (by rw [hlen]; simpa using hc) (by rw [hlen]; simpa using hf) (by
    intro v hv'
    simp [Builtin.zeroCells] at hv'
    obtain ⟨k, _, rfl⟩ := hv'
    have hlt : k % z.cells.size < z.cells.size := Nat.mod_lt _ hz
    rw [getElem!_pos z.cells _ hlt]
    exact h1 _ (Array.getElem_mem hlt))
  simp only [Nat.add_zero] at hst
  obtain ⟨m, rfl⟩ : ∃ m, n = m + 1 := ⟨n - 1, by omega⟩
  simp [Builtin.clear_, run_underlying ht, hv, hst]

/-- Only block g and what is new has turned. -/
theorem gb_of_ext {w w' : World} (h : Ext w w') (g : Nat) : w.grownBy w' (some g) := ⟨h.os, h.tape, h.output, h.size, fun k hk _ => h.block k hk⟩
theorem gb_trans {a b c : World} {g : Nat} (h : a.grownBy b (some g)) (k : b.grownBy c (some g)) : a.grownBy c (some g) :=
  ⟨k.os.trans h.os, k.tape.trans h.tape, k.output.trans h.output, Nat.le_trans h.size k.size, fun i hi hne => (k.block i (Nat.lt_of_lt_of_le hi h.size) hne).trans (h.block i hi hne)⟩
theorem gb_set {a b : World} {g : Nat} (h : a.grownBy b (some g)) (o : Nat) (v : Value) : a.grownBy (b.setCell ⟨g, o, none⟩ v) (some g) :=
  gb_trans h ⟨rfl, rfl, rfl, by simp [World.setCell], fun k _ hne => Below.heap_setCell _ _ _ _ (fun e => hne (by rw [e]))⟩
theorem gb_setCells {a b : World} {g : Nat} : ∀ (vs : List Value) (o : Nat) {b : World}, a.grownBy b (some g) → a.grownBy (b.setCells g o vs) (some g)
  | [], _, _, h => h
  | v :: r, o, _, h => gb_setCells (b := b) r (o + 1) (gb_set h o v)
theorem gb_cell {w w' : World} {g : Nat} (h : w.grownBy w' (some g)) {p : Addr} {v : Value} (hp : w.cell? p = some v) (hne : p.block ≠ g) : w'.cell? p = some v :=
  h.cell hp (fun e => hne (by injection e))
theorem RdI.gb {k : IntKind} {w w' : World} {A : Option Addr} {zs : List Int} {g : Nat} (h : RdI k w A zs) (hne : ∀ p, A = some p → p.block ≠ g) (hg : w.grownBy w' (some g)) : RdI k w' A zs := fun hn => by
  obtain ⟨b, off, rfl, hc⟩ := h hn
  exact ⟨b, off, rfl, fun i x hx => gb_cell hg (hc i x hx) (show b ≠ g from hne ⟨b, off, none⟩ rfl)⟩
theorem ItemOk.gb {w w' : World} {g : Nat} {it : NItem} (h : ItemOk w g it) (hg : w.grownBy w' (some g)) : ItemOk w' g it := ⟨h.rd.gb h.ne hg, h.ne, h.le⟩

theorem compGo_take {L : List NItem} {k : Nat} {a : NItem} (hQ : ∀ j a b, j + 1 < k + 1 → L[j + 1]? = some a → L[j]? = some b → eqIt a b = false) (hk : L[k]? = some a) : compact L = L.take (k + 1) ++ compGo a (L.drop (k + 1)) := by
  induction k generalizing a with
  | zero =>
    cases L with
    | nil => simp at hk
    | cons b l => simp at hk; subst hk; simp [compact]
  | succ k ih =>
    have hlt : k < L.length := by have := (List.getElem?_eq_some_iff.1 hk).1; omega
    obtain ⟨b, hb⟩ := getElem?_of_lt hlt
    have hlt2 := (List.getElem?_eq_some_iff.1 hk).1
    have e := hQ k a b (by omega) hk hb
    rw [ih (fun j a b h => hQ j a b (by omega)) hb]
    rw [List.drop_eq_getElem_cons hlt2]
    have e2 : L[k + 1] = a := (List.getElem?_eq_some_iff.1 hk).2
    rw [e2, compGo, e]
    have e3 : L.take (k + 1 + 1) = L.take (k + 1) ++ [a] := by rw [List.take_succ_eq_append_getElem hlt2, e2]
    rw [e3]
    simp
theorem compact_all {L : List NItem} (hQ : ∀ j a b, j + 1 < L.length → L[j + 1]? = some a → L[j]? = some b → eqIt a b = false) : compact L = L := by
  cases hL : L with
  | nil => rfl
  | cons a l =>
    have hlen : 0 < L.length := by rw [hL]; simp
    obtain ⟨b, hb⟩ := getElem?_of_lt (l := L) (k := L.length - 1) (by omega)
    have := compGo_take (k := L.length - 1) (fun j a b h => hQ j a b (by omega)) hb
    rw [show L.length - 1 + 1 = L.length from by omega, List.take_length, List.drop_length] at this
    rw [hL] at this
    rw [this]; simp [compGo]
theorem compGo_eq {L : List NItem} {m : Nat} {a b : NItem} (ha : L[m + 1]? = some a) (e : eqIt a b = true) : compGo b (L.drop (m + 1)) = compGo a (L.drop (m + 1 + 1)) := by
  have hlt := (List.getElem?_eq_some_iff.1 ha).1
  rw [List.drop_eq_getElem_cons hlt, (List.getElem?_eq_some_iff.1 ha).2, compGo, if_pos e]
theorem compGo_ne {L : List NItem} {m : Nat} {a b : NItem} (ha : L[m + 1]? = some a) (e : eqIt a b = false) : compGo b (L.drop (m + 1)) = a :: compGo a (L.drop (m + 1 + 1)) := by
  have hlt := (List.getElem?_eq_some_iff.1 ha).1
  rw [List.drop_eq_getElem_cons hlt, (List.getElem?_eq_some_iff.1 ha).2, compGo, if_neg (by simp [e])]
theorem mem_at {L pre : List NItem} {m : Nat} (h : pre.length ≤ m) : (pre ++ L.drop pre.length)[m]? = L[m]? := by
  rw [List.getElem?_append_right h, List.getElem?_drop, Nat.add_sub_cancel' h]
theorem mem_set {L pre : List NItem} {a : NItem} (h : pre.length < L.length) : (pre ++ L.drop pre.length).set pre.length a = (pre ++ [a]) ++ L.drop (pre ++ [a]).length := by
  have e : L.drop pre.length = L[pre.length] :: L.drop (pre.length + 1) := List.drop_eq_getElem_cons h
  rw [List.set_append_right _ _ (Nat.le_refl _), Nat.sub_self, e, List.set_cons_zero]
  simp

set_option maxRecDepth 100000 in
set_option maxHeartbeats 2000000 in
theorem compactFunc_any (g cap : Nat) (L : List NItem) (bx sx so : Nat) (w : World) (hL : Lst w g (cap * 2) L) (hcap : L.length ≤ cap) (hlen : L.length ≤ 4611686018427387904)
    (hok : ∀ it ∈ L, ItemOk w g it) (h1 : w.cell? ⟨bx, 0, none⟩ = some (.pointer (some ⟨sx, so, none⟩))) (h2 : w.cell? ⟨sx, so + 1, none⟩ = some (.func (Fn.func 51) #[] #[])) (hbx : bx ≠ g) (hsx : sx ≠ g) :
    Calls Tryz.prog 98 #[.slice (some ⟨g, 0, none⟩) L.length cap, .func (Fn.func 99) #[] #[.pointer (some ⟨bx, 0, none⟩)]] w fun e w' =>
      e = .returned (.slice (some ⟨g, 0, none⟩) (compact L).length cap) ∧ Lst w' g (cap * 2) (compact L) ∧ w.grownBy w' (some g) := by
  have HL := Lib.hid hL
  have HOK := Lib.hid hok
  have HB1 := Lib.hid h1
  have HB2 := Lib.hid h2
  have HN1 := Lib.hid hbx
  have HN2 := Lib.hid hsx
  clear hL hok h1 h2 hbx hsx
  have hz59 : ∀ w, (zeroValue 83).run Tryz.prog w = .ok (.agg #[.int .i64 0, .slice none 0 0]) w := fun w => by kernel_rfl
  have HZ := Lib.hid hz59
  clear hz59
  by_cases hsz : L.length < 2
  · have HC : Hid (compact L = L) := Lib.hid (compact_all (fun j a b h => by omega))
    go_enter Tryz.func98, Tryz.ntmps98
    go_wp2_with fail
    go_ret
    rw [HC.out]
    exact ⟨rfl, HL.out, World.grownBy.refl _ _⟩
  · have hszb : decide ((L.length : Int) < 2) = false := by simp; omega
    go_enter Tryz.func98, Tryz.ntmps98
    go_wp2_with fail
    clear hszb
    go_loopw [5, 6, 7] (fun i _ _ wr => ∃ k : Nat, 1 ≤ k ∧ k ≤ L.length ∧ i = .int .i64 k ∧ Hid (Ext w wr) ∧ Hid (∀ j a b, j + 1 < k → L[j + 1]? = some a → L[j]? = some b → eqIt a b = false)) (fun i _ _ _ => L.length - (intOf i).toNat)
    case atStart => exact ⟨1, by omega, by omega, rfl, Lib.hid (Ext.refl _), Lib.hid (fun j a b h => by omega)⟩
    case round =>
      obtain ⟨k, hk1, hk, rfl, HE, HQ⟩ := hrel
      by_cases hlt : k < L.length
      · obtain ⟨a, ha⟩ := getElem?_of_lt hlt
        obtain ⟨b, hb⟩ := getElem?_of_lt (l := L) (k := k - 1) (by omega)
        have HA := Lib.hid ha
        have HB := Lib.hid hb
        clear ha hb
        have HL1 := Lib.hid (HL.out.ext (HE.out.drew))
        have t1 := HL1.out.cell0 HA.out
        have t2 := HL1.out.cell1 HA.out
        have t3 := HL1.out.cell0 HB.out
        have t4 := HL1.out.cell1 HB.out
        have HE1 := Lib.hid HE.out.drew
        clear HE
        have a1 : IntKind.i64.wrap ((k : Int) - 1) = (k : Int) - 1 := IntWalk.i64_in _ (by omega)
        have a2 : 0 ≤ (k : Int) - 1 := by omega
        have a3 : ((k : Int) - 1).toNat = k - 1 := by omega
        have a4 : (k : Int) - 1 < (L.length : Int) := by omega
        have a5 : (1 : Int) ≤ (k : Int) := by omega
        go_wp2_with fail
        refine region_still_tail 10 (by kernel_rfl) (by kernel_rfl) ?_
        simp only [List.take_succ_cons, List.take_zero, List.drop_succ_cons, List.drop_zero]
        generalize wr.drew = w3 at *
        iterate 10 still_step
        refine wpStill_nil ?_
        have HC := Lib.hid (sortEq_any a b bx sx so w3 g ((HOK.out a (List.mem_of_getElem? HA.out)).ext HE1.out) ((HOK.out b (List.mem_of_getElem? HB.out)).ext HE1.out) (HE1.out.cell HB1.out) (HE1.out.cell HB2.out))
        unfold NItem.agg at HC
        clear t1 t2 t3 t4 HL1 a1 a2 a3 a4 a5
        cases heq : eqIt a b with
        | false =>
          rw [heq] at HC
          have HEQ := Lib.hid heq
          clear heq
          go_wp2_with fail
          refine HC.out.mono ?_
          rintro e w' ⟨rfl, he⟩
          have HE2 := Lib.hid (HE1.out.trans he)
          clear he
          go_wp2_with fail
          go_roundw
          case rel =>
            refine ⟨k + 1, by omega, by omega, by go_num, HE2, Lib.hid (fun j x y hj hx hy => ?_)⟩
            by_cases e : j + 1 = k
            · subst e
              rw [HA.out] at hx
              have hB := HB.out
              rw [show j + 1 - 1 = j from by omega, hy] at hB
              cases hx; cases hB
              exact HEQ.out
            · exact HQ.out j x y (by omega) hx hy
          case measure => simp [intOf]; omega
        | true =>
          rw [heq] at HC
          have HEQ := Lib.hid heq
          clear heq
          have HCP : Hid (compact L = L.take k ++ compGo a (L.drop (k + 1))) := Lib.hid (by
            obtain ⟨m, rfl⟩ : ∃ m, k = m + 1 := ⟨k - 1, by omega⟩
            rw [compGo_take (k := m) HQ.out HB.out, compGo_eq HA.out HEQ.out])
          go_wp2_with fail
          refine HC.out.mono ?_
          rintro e w' ⟨rfl, he⟩
          have HE2 := Lib.hid (HE1.out.trans he)
          clear he HC HE1
          go_wp2_with fail
          obtain ⟨wo, rfl⟩ : ∃ wo : World, wo = wr := ⟨_, rfl⟩
          go_loopw [7, 5] (fun s i wx => ∃ (j : Nat) (pre : List NItem) (last : NItem), 1 ≤ j ∧ j ≤ L.length - k ∧ s = .int .i64 j ∧ i = .int .i64 (pre.length : Nat) ∧ k ≤ pre.length ∧ pre.length + 1 ≤ k + j ∧ Hid (L[k + j - 1]? = some last) ∧ Hid (compact L = pre ++ compGo last (L.drop (k + j))) ∧ Hid (Lst wx g (cap * 2) (pre ++ L.drop pre.length)) ∧ Hid (w.grownBy wx (some g))) (fun s _ _ => L.length - (intOf s).toNat)
          case atStart =>
            have hlt' : (L.take k).length = k := by rw [List.length_take]; omega
            refine ⟨1, L.take k, a, by omega, by omega, rfl, by rw [hlt'], by omega, by omega, Lib.hid (by rw [show k + 1 - 1 = k from by omega]; exact HA.out), HCP, Lib.hid ?_, Lib.hid (gb_of_ext HE2.out g)⟩
            rw [hlt', List.take_append_drop]
            exact HL.out.ext HE2.out
          case round =>
            clear HE2 HCP HEQ HQ HA HB
            obtain ⟨j, pre, last, hj1, hj, rfl, rfl, hp1, hp2, HLA, HCP, HLS, HGB⟩ := hrel
            by_cases hjl : j < L.length - k
            · obtain ⟨a2, ha2⟩ := getElem?_of_lt (l := L) (k := k + j) (by omega)
              have m1 : (pre ++ L.drop pre.length)[k + j]? = some a2 := by rw [mem_at (by omega)]; exact ha2
              have m2 : (pre ++ L.drop pre.length)[k + (j - 1)]? = some last := by rw [mem_at (by omega), show k + (j - 1) = k + j - 1 from by omega]; exact HLA.out
              have t1 := HLS.out.cell0 m1
              have t2 := HLS.out.cell1 m1
              have t3 := HLS.out.cell0 m2
              have t4 := HLS.out.cell1 m2
              rw [Nat.add_mul] at t1 t2 t3 t4
              have HA2 := Lib.hid ha2
              have HM1 := Lib.hid m1
              clear ha2 m1 m2
              have t1' : wr.drew.cell? _ = _ := t1
              have t2' : wr.drew.cell? _ = _ := t2
              have t3' : wr.drew.cell? _ = _ := t3
              have t4' : wr.drew.cell? _ = _ := t4
              have HGB1 : Hid (w.grownBy wr.drew (some g)) := Lib.hid (gb_trans HGB.out (gb_of_ext ((Ext.refl _).drew) g))
              have HLS1 : Hid (Lst wr.drew g (cap * 2) (pre ++ L.drop pre.length)) := Lib.hid (HLS.out.ext ((Ext.refl _).drew))
              clear t1 t2 t3 t4 HGB HLS
              have hjz : (j : Int) < ((L.length - k : Nat) : Int) := by omega
              have a1 : IntKind.i64.wrap ((j : Int) - 1) = (j : Int) - 1 := IntWalk.i64_in _ (by omega)
              have a2' : 0 ≤ (j : Int) - 1 := by omega
              have a3 : ((j : Int) - 1).toNat = j - 1 := by omega
              have a4 : (j : Int) - 1 < ((L.length - k : Nat) : Int) := by omega
              have a5 : (1 : Int) ≤ (j : Int) := by omega
              go_wp2_with fail
              refine region_still_tail 10 (by kernel_rfl) (by kernel_rfl) ?_
              simp only [List.take_succ_cons, List.take_zero, List.drop_succ_cons, List.drop_zero]
              generalize wr.drew = w3 at *
              iterate 10 still_step
              refine wpStill_nil ?_
              have HC := Lib.hid (sortEq_any a2 last bx sx so w3 g ((HOK.out a2 (List.mem_of_getElem? HA2.out)).gb HGB1.out) ((HOK.out last (List.mem_of_getElem? HLA.out)).gb HGB1.out) (gb_cell HGB1.out HB1.out HN1.out) (gb_cell HGB1.out HB2.out HN2.out))
              unfold NItem.agg at HC
              clear t3' t4' a1 a2' a3 a4 a5
              cases heq : eqIt a2 last with
              | true =>
                rw [heq] at HC
                have HEQ := Lib.hid heq
                clear heq t1' t2'
                go_wp2_with fail
                refine HC.out.mono ?_
                rintro e w4 ⟨rfl, he⟩
                have HGB2 := Lib.hid (gb_trans HGB1.out (gb_of_ext he g))
                have HLS2 := Lib.hid (HLS1.out.ext he)
                clear he
                go_wp2_with fail
                go_roundw
                case rel =>
                  refine ⟨j + 1, pre, a2, by omega, by omega, by go_num, rfl, hp1, by omega, Lib.hid (by rw [show k + (j + 1) - 1 = k + j from by omega]; exact HA2.out), Lib.hid ?_, HLS2, HGB2⟩
                  obtain ⟨m, hm⟩ : ∃ m, k + j = m + 1 := ⟨k + j - 1, by omega⟩
                  have h1 := HA2.out
                  rw [hm] at h1
                  rw [HCP.out, hm, compGo_eq h1 HEQ.out, show k + (j + 1) = m + 1 + 1 from by omega]
                case measure => simp [intOf]; omega
              | false =>
                rw [heq] at HC
                have HEQ := Lib.hid heq
                clear heq
                have hpl : pre.length < L.length := by omega
                have hpz : (pre.length : Int) < (L.length : Int) := by omega
                obtain ⟨p, hp⟩ : ∃ p, p = pre.length := ⟨_, rfl⟩
                go_wp2_with fail
                refine HC.out.mono ?_
                rintro e w4 ⟨rfl, he⟩
                have HGB2 := Lib.hid (gb_trans HGB1.out (gb_of_ext he g))
                have HLS2 := Lib.hid (HLS1.out.ext he)
                have s1 := he.cell t1'
                have s2 := he.cell t2'
                have hlm : pre.length < (pre ++ L.drop pre.length).length := by rw [List.length_append, List.length_drop]; omega
                obtain ⟨q, hq⟩ := getElem?_of_lt hlm
                have s3 := HLS2.out.cell0 hq
                have s4 := HLS2.out.cell1 hq
                have s5 := HLS2.out.frozen (pre.length * 2)
                have s6 := HLS2.out.frozen (pre.length * 2 + 1)
                have HSET := Lib.hid (HLS2.out.set hlm a2)
                clear he t1' t2' hq hlm HC hp
                go_wp2_with fail
                go_roundw
                case rel =>
                  refine ⟨j + 1, pre ++ [a2], a2, by omega, by omega, by go_num, by simp, by simp; omega, by simp; omega, Lib.hid (by rw [show k + (j + 1) - 1 = k + j from by omega]; exact HA2.out), Lib.hid ?_, Lib.hid ?_, Lib.hid (gb_set (gb_set HGB2.out _ _) _ _)⟩
                  · obtain ⟨m, hm⟩ : ∃ m, k + j = m + 1 := ⟨k + j - 1, by omega⟩
                    have h1 := HA2.out
                    rw [hm] at h1
                    rw [HCP.out, hm, compGo_ne h1 HEQ.out, show k + (j + 1) = m + 1 + 1 from by omega]
                    simp
                  · have := HSET.out
                    rw [mem_set hpl] at this
                    exact this
                case measure => simp [intOf]; omega
            · have hjl' : j = L.length - k := by omega
              have HF : Hid (compact L = pre) := Lib.hid (by rw [HCP.out, show k + j = L.length from by omega, List.drop_length]; simp [compGo])
              have hpl : pre.length < L.length := by omega
              have hcl : ∀ ty, (Builtin.clear_ #[79] ty #[.slice (some ⟨g, pre.length * 2, none⟩) (L.length - pre.length) (cap - pre.length)]).run Tryz.prog wr = .ok (.tuple #[]) (wr.setCells g (pre.length * 2) (Builtin.zeroCells #[.int .i64 0, .slice none 0 0] (L.length - pre.length)).toList) := fun ty => by
                obtain ⟨f, f1, f2, f3⟩ := HLS.out
                refine run_clear_agg wr _ 83 ty (.agg #[.int .i64 0, .slice none 0 0]) Tryz.underlying79 HZ.out (by simp [Value.cells, Value.oneCell']) (by simp [Value.cells]) g _ _ _ (by omega) (fun j hj => ?_) (fun j hj => f1.frozen _)
                simp [Value.cells] at hj
                rw [f1.cell (by omega)]; rfl
              have HCL : Hid (Lst (wr.setCells g (pre.length * 2) (Builtin.zeroCells #[.int .i64 0, .slice none 0 0] (L.length - pre.length)).toList) g (cap * 2) pre) := Lib.hid (by
                obtain ⟨f, f1, f2, f3⟩ := HLS.out
                obtain ⟨f', q1, q2, _⟩ := setCells_row (Builtin.zeroCells #[.int .i64 0, .slice none 0 0] (L.length - pre.length)).toList (pre.length * 2) wr f f1
                refine ⟨f', q1, by omega, fun i it hi => ?_⟩
                have hlt := (List.getElem?_eq_some_iff.1 hi).1
                have := f3 i it (by rw [List.getElem?_append_left hlt]; exact hi)
                rw [q2 _ (by omega), q2 _ (by omega)]
                exact this)
              have HGB3 : Hid (w.grownBy (wr.setCells g (pre.length * 2) (Builtin.zeroCells #[.int .i64 0, .slice none 0 0] (L.length - pre.length)).toList) (some g)) := Lib.hid (gb_setCells (b := wr) _ _ HGB.out)
              clear hjl'
              go_wp2_with fail
              go_ret
              rw [HF.out]
              exact ⟨rfl, HCL.out, HGB3.out⟩
      · have HC : Hid (compact L = L) := Lib.hid (compact_all (fun j a b h => HQ.out j a b (by omega)))
        go_wp2_with fail
        go_ret
        rw [HC.out]
        exact ⟨rfl, HL.out.ext HE.out, gb_of_ext HE.out g⟩

end Go.Proofs.YtennjcjjegbhgaaGreat

/-
  DERIVED: THE SHELF's CONTRACTS AT THIS DUMP, IN PLAIN WORDS (tools/lay-plain.mjs out of 'TryzShelf.lean', which tools/lay-shelf.mjs wrote): THE SAME DECLARATIONS UNDER THE SAME NAMES: 'import', 'namespace', 'open', 'def', 'theorem' AND NOTHING ELSE: no command of the shelf's: FOR A HAND-IN. Each laying: the table of numbers ('.._ren') and one theorem, a field a fact of the dump's own or the kernel's comparison; each contract: ONE APPLICATION.
-/
namespace Go.Proofs
open Go.Shelf
def Tryz.sortK_ren : Go.Shelf.Ren := ⟨fun | 6 => 97 | 15 => 136 | 14 => 135 | 28 => 163 | 29 => 164 | 20 => 155 | 21 => 156 | 22 => 157 | 23 => 158 | 24 => 159 | 25 => 160 | 26 => 161 | 27 => 162 | 46 => 174 | 47 => 175 | 48 => 176 | 49 => 177 | 50 => 178 | 57 => 188 | n => n, fun | 22 => 79 | 24 => 83 | 25 => 78 | 3 => 3 | 39 => 93 | 0 => 0 | 53 => 92 | 55 => 43 | 4 => 4 | 46 => 170 | 45 => 169 | 50 => 141 | 5 => 5 | 9 => 9 | 66 => 183 | 70 => 187 | 76 => 194 | 77 => 195 | n => n, fun | n => n⟩
theorem Tryz.sortK : Go.Proofs.SlLaysF0.n6 Tryz.prog Tryz.sortK_ren := {
  mixed := by kernel_rfl
  f6 := ⟨Tryz.f97.name, by decide, Tryz.func97.trans (congrArg some (by kernel_rfl))⟩
  f14 := ⟨Tryz.f135.name, by decide, Tryz.func135.trans (congrArg some (by kernel_rfl))⟩
  f15 := Tryz.func136.trans (congrArg some (by kernel_rfl))
  f20 := ⟨Tryz.f155.name, by decide, Tryz.func155.trans (congrArg some (by kernel_rfl))⟩
  f21 := ⟨Tryz.f156.name, by decide, Tryz.func156.trans (congrArg some (by kernel_rfl))⟩
  f22 := ⟨Tryz.f157.name, by decide, Tryz.func157.trans (congrArg some (by kernel_rfl))⟩
  f23 := ⟨Tryz.f158.name, by decide, Tryz.func158.trans (congrArg some (by kernel_rfl))⟩
  f24 := ⟨Tryz.f159.name, by decide, Tryz.func159.trans (congrArg some (by kernel_rfl))⟩
  f25 := ⟨Tryz.f160.name, by decide, Tryz.func160.trans (congrArg some (by kernel_rfl))⟩
  f26 := ⟨Tryz.f161.name, by decide, Tryz.func161.trans (congrArg some (by kernel_rfl))⟩
  f27 := ⟨Tryz.f162.name, by decide, Tryz.func162.trans (congrArg some (by kernel_rfl))⟩
  f28 := Tryz.func163.trans (congrArg some (by kernel_rfl))
  f29 := Tryz.func164.trans (congrArg some (by kernel_rfl))
  f46 := ⟨Tryz.f174.name, by decide, Tryz.func174.trans (congrArg some (by kernel_rfl))⟩
  f47 := Tryz.func175.trans (congrArg some (by kernel_rfl))
  f48 := Tryz.func176.trans (congrArg some (by kernel_rfl))
  f49 := ⟨Tryz.f177.name, by decide, Tryz.func177.trans (congrArg some (by kernel_rfl))⟩
  f50 := ⟨Tryz.f178.name, by decide, Tryz.func178.trans (congrArg some (by kernel_rfl))⟩
  f57 := ⟨Tryz.f188.name, by decide, Tryz.func188.trans (congrArg some (by kernel_rfl))⟩
  t0 := Tryz.underlying0
  a0 := Tryz.isAgg0
  z0 := Tryz.sizeOf0
  v0 := Tryz.zeroValue0
  t3 := Tryz.underlying3
  a3 := Tryz.isAgg3
  z3 := Tryz.sizeOf3
  v3 := Tryz.zeroValue3
  t4 := Tryz.underlying4
  a4 := Tryz.isAgg4
  z4 := Tryz.sizeOf4
  v4 := Tryz.zeroValue4
  t5 := Tryz.underlying5
  a5 := Tryz.isAgg5
  z5 := Tryz.sizeOf5
  v5 := Tryz.zeroValue5
  t9 := Tryz.underlying9
  a9 := Tryz.isAgg9
  z9 := Tryz.sizeOf9
  v9 := Tryz.zeroValue9
  t22 := Tryz.underlying79
  a22 := Tryz.isAgg79
  z22 := Tryz.sizeOf79
  v22 := Tryz.zeroValue79
  t25 := Tryz.underlying78
  a25 := Tryz.isAgg78
  z25 := Tryz.sizeOf78
  v25 := Tryz.zeroValue78
  t39 := Tryz.underlying93
  a39 := Tryz.isAgg93
  z39 := Tryz.sizeOf93
  v39 := Tryz.zeroValue93
  t45 := Tryz.underlying169
  a45 := Tryz.isAgg169
  z45 := Tryz.sizeOf169
  v45 := Tryz.zeroValue169
  t46 := Tryz.underlying170
  a46 := Tryz.isAgg170
  z46 := Tryz.sizeOf170
  v46 := Tryz.zeroValue170
  t50 := Tryz.underlying141
  a50 := Tryz.isAgg141
  z50 := Tryz.sizeOf141
  v50 := Tryz.zeroValue141
  t53 := Tryz.underlying92
  a53 := Tryz.isAgg92
  z53 := Tryz.sizeOf92
  v53 := Tryz.zeroValue92
  t55 := Tryz.underlying43
  a55 := Tryz.isAgg43
  z55 := Tryz.sizeOf43
  v55 := Tryz.zeroValue43
  t66 := Tryz.underlying183
  a66 := Tryz.isAgg183
  z66 := Tryz.sizeOf183
  v66 := Tryz.zeroValue183
  t70 := Tryz.underlying187
  a70 := Tryz.isAgg187
  z70 := Tryz.sizeOf187
  v70 := Tryz.zeroValue187
  t76 := Tryz.underlying194
  a76 := Tryz.isAgg194
  z76 := Tryz.sizeOf194
  v76 := Tryz.zeroValue194
  t77 := Tryz.underlying195
  a77 := Tryz.isAgg195
  z77 := Tryz.sizeOf195
  v77 := Tryz.zeroValue195 }
end Go.Proofs

/-
  The walk of (*sorter).sort: slices.SortFunc by the shelf's contract, then slices.CompactFunc.
-/
namespace Go.Proofs.YtennjcjjegbhgaaGreat
open Go.RowKit
open Go.Sort (flatK putRowK HoldsK get_flatK size_flatK)

def encIt (it : NItem) : List Value := [.int .i64 it.key, .slice it.at_ it.vals.length it.cap]

theorem rowIs_putRow {w : World} {g t N : Nat} {f : Nat → Value} (h : w.rowIs g t N f) (d : Array Value) : (Sort.putRow id w g 0 d).rowIs g t N (fun k => if k < d.size then d[k]! else f k) := by
  obtain ⟨c, hb, hn, hc⟩ := h
  refine ⟨Sort.putCells id 0 d c, ?_, by simp [Sort.putCells, hn], fun i hi => ?_⟩
  · simp [Sort.putRow, Sort.mapBlock, Array.getElem?_modify, hb, Sort.onCells]
  · simp [Sort.putCells, hc i hi]
theorem putRow_block (w : World) (g : Nat) (d : Array Value) (k : Nat) (hk : k ≠ g) : (Sort.putRow id w g 0 d).heap[k]? = w.heap[k]? := by
  simp [Sort.putRow, Sort.mapBlock, Array.getElem?_modify, Ne.symm hk]
theorem putRow_size (w : World) (g : Nat) (d : Array Value) : (Sort.putRow id w g 0 d).heap.size = w.heap.size := by
  simp [Sort.putRow, Sort.mapBlock]

section
variable {α : Type} [Inhabited α] (enc : α → List Value) (w : World) (g n : Nat) (d : Array α) (os : Array Obj)
theorem sortW_gb : w.grownBy (sortWorldK enc 2 w g 0 n d os) (some g) := by
  unfold sortWorldK putRowK
  refine ⟨rfl, rfl, rfl, ?_, fun k hk hne => ?_⟩
  · show w.heap.size ≤ ((Sort.putRow id (Sort.ahead w n) g 0 _).heap ++ os).size
    rw [Array.size_append, putRow_size]
    exact Nat.le_add_right _ _
  · show ((Sort.putRow id (Sort.ahead w n) g 0 _).heap ++ os)[k]? = w.heap[k]?
    rw [Array.getElem?_append_left (by rw [putRow_size]; exact hk), putRow_block _ _ _ _ (fun e => hne (by rw [e]))]
    rfl
theorem sortW_row {t N : Nat} {f : Nat → Value} (h : w.rowIs g t N f) : (sortWorldK enc 2 w g 0 n d os).rowIs g t N (fun k => if k < (flatK enc 2 d).size then (flatK enc 2 d)[k]! else f k) := by
  have h1 := rowIs_putRow (w := Sort.ahead w n) h (flatK enc 2 d)
  refine h1.of_block ?_
  unfold sortWorldK putRowK
  show ((Sort.putRow id (Sort.ahead w n) g 0 _).heap ++ os)[g]? = _
  rw [Array.getElem?_append_left h1.lt]
end

/-- The items of a list whose vectors lie in w, outside block g. -/
structure OkIt (w : World) (g : Nat) where
  it : NItem
  ok : ItemOk w g it
instance (w : World) (g : Nat) : Inhabited (OkIt w g) := ⟨⟨⟨0, [], none, 0⟩, ⟨RdI.nil _ _ _, (by intro p h; cases h), by simp⟩⟩⟩
def encOk (w : World) (g : Nat) (x : OkIt w g) : List Value := encIt x.it
def arrOk (w : World) (g : Nat) (L : List NItem) (h : ∀ it ∈ L, ItemOk w g it) : Array (OkIt w g) := (L.attach.map fun x => (⟨x.1, h x.1 x.2⟩ : OkIt w g)).toArray
theorem arrOk_size {w : World} {g : Nat} {L : List NItem} (h : ∀ it ∈ L, ItemOk w g it) : (arrOk w g L h).size = L.length := by
  unfold arrOk; rw [List.size_toArray, List.length_map, List.length_attach]
theorem arrOk_list {w : World} {g : Nat} {L : List NItem} (h : ∀ it ∈ L, ItemOk w g it) : (arrOk w g L h).toList.map (fun x : OkIt w g => x.it) = L := by
  unfold arrOk
  rw [List.map_map]
  exact List.attach_map_subtype_val L

theorem flat_at {w : World} {g : Nat} (d : Array (OkIt w g)) {j : Nat} {it : NItem} (hj : (d.toList.map (fun x : OkIt w g => x.it))[j]? = some it) :
    (flatK (encOk w g) 2 d)[j * 2]! = .int .i64 it.key ∧ (flatK (encOk w g) 2 d)[j * 2 + 1]! = it.val := by
  have hlt : j < d.size := by have := (List.getElem?_eq_some_iff.1 hj).1; simpa using this
  have he : d[j]!.it = it := by
    have : d.toList[j]? = some d[j]! := by simp [hlt]
    rw [List.getElem?_map, this] at hj
    simpa using hj
  constructor
  · rw [get_flatK _ _ _ _ (by omega), show j * 2 / 2 = j from by omega, show j * 2 % 2 = 0 from by omega]
    simp [encOk, encIt, he]
  · rw [get_flatK _ _ _ _ (by omega), show (j * 2 + 1) / 2 = j from by omega, show (j * 2 + 1) % 2 = 1 from by omega]
    simp [encOk, encIt, he, NItem.val]

theorem holds_of_lst {w : World} {g N : Nat} {L : List NItem} (hL : Lst w g N L) (h : ∀ it ∈ L, ItemOk w g it) : HoldsK (encOk w g) 2 w g 0 (arrOk w g L h) := by
  obtain ⟨f, h1, h2, h3⟩ := hL
  intro t ht
  rw [size_flatK, arrOk_size] at ht
  have hj : t / 2 < L.length := by omega
  obtain ⟨it, hit⟩ := getElem?_of_lt hj
  have hfl := flat_at (arrOk w g L h) (j := t / 2) (it := it) (by rw [arrOk_list]; exact hit)
  obtain ⟨q1, q2⟩ := h3 _ _ hit
  rw [Nat.zero_add]
  refine ⟨?_, h1.frozen t⟩
  rw [h1.cell (by omega)]
  rcases Nat.mod_two_eq_zero_or_one t with e | e
  · rw [show t = t / 2 * 2 from by omega, hfl.1, q1]; rfl
  · rw [show t = t / 2 * 2 + 1 from by omega, hfl.2, q2]; rfl

theorem ItemOk.sortW {w : World} {g n : Nat} {d : Array (OkIt w g)} {os : Array Obj} {it : NItem} (h : ItemOk w g it) : ItemOk (sortWorldK (encOk w g) 2 w g 0 n d os) g it := h.gb (sortW_gb _ _ _ _ _ _)

theorem cmpLays_it (w : World) (g size : Nat) : CmpLays Tryz.prog 51 #[] (encOk w g) 2 (fun a b => cmpIt a.it b.it) g 0 size w := fun m os dk hs x y =>
  compareByNorm_any x.it.key y.it.key x.it.at_ y.it.at_ x.it.cap y.it.cap x.it.vals y.it.vals _ x.ok.sortW.rd y.ok.sortW.rd x.ok.le y.ok.le

/-- Ascending: no later item is less than an earlier one. -/
def SortedL (L : List NItem) : Prop := ∀ (i j : Nat) a b, i < j → L[i]? = some a → L[j]? = some b → ¬ cmpIt b a < 0

theorem sortFunc_any (g cap : Nat) (L : List NItem) (w : World) (hL : Lst w g (cap * 2) L) (hlen : L.length < 4611686018427387904) (hok : ∀ it ∈ L, ItemOk w g it) :
    Calls Tryz.prog 97 #[.slice (some ⟨g, 0, none⟩) L.length cap, .func (Fn.func 51) #[] #[]] w fun e w' =>
      ∃ L', e = .returned (.tuple #[]) ∧ L'.Perm L ∧ SortedL L' ∧ Lst w' g (cap * 2) L' ∧ w.grownBy w' (some g) := by
  have eg : ∀ args w, (callFunc 51 args).run Tryz.prog w = .ok (.enter 51 args) w := enters_of Tryz.func51 (by kernel_rfl) rfl
  obtain ⟨f, h1, h2, h3⟩ := hL
  have hlt := h1.lt
  have hcon := AnyQ.slices_SortFunc (α := OkIt w g) Tryz.sortK 2 (fun w => by kernel_rfl) (fun w => by kernel_rfl) (encOk w g) (fun _ => rfl) (fun x v hv => by simp [encOk, encIt] at hv; rcases hv with rfl | rfl <;> rfl) (fun a b => cmpIt a.it b.it) (swoIt fun x : OkIt w g => x.it) 51 #[] g 0 cap (arrOk w g L hok) w eg (cmpLays_it w g _) (holds_of_lst ⟨f, h1, h2, h3⟩ hok) hlt (by rw [arrOk_size]; exact hlen)
  change Calls Tryz.prog 97 _ _ _ at hcon
  rw [arrOk_size] at hcon
  refine hcon.mono fun e w' ⟨he, d', n, os, hp, hs, hw⟩ => ?_
  obtain ⟨hsz, _, hperm⟩ := hp
  rw [arrOk_size] at hsz
  have hlen' : (d'.toList.map (fun x : OkIt w g => x.it)).length = L.length := by simp [hsz]
  refine ⟨d'.toList.map (fun x : OkIt w g => x.it), he, ?_, ?_, ?_, by rw [hw]; exact sortW_gb _ _ _ _ _ _⟩
  · have hp2 : d'.toList.Perm (arrOk w g L hok).toList := by
      have e1 : d'.extract 0 L.length = d' := by rw [← hsz]; simp
      have e2 : (arrOk w g L hok).extract 0 L.length = arrOk w g L hok := by
        have := arrOk_size hok
        rw [← this]; simp
      rw [e1, e2] at hperm
      exact hperm
    have := hp2.map (fun x : OkIt w g => x.it)
    rw [arrOk_list] at this
    exact this
  · intro i j a b hij ha hb
    have hj : j < d'.size := by have := (List.getElem?_eq_some_iff.1 hb).1; simpa using this
    have ea : d'[i]!.it = a := by
      have : d'.toList[i]? = some d'[i]! := by simp [show i < d'.size by omega]
      rw [List.getElem?_map, this] at ha; simpa using ha
    have eb : d'[j]!.it = b := by
      have : d'.toList[j]? = some d'[j]! := by simp [hj]
      rw [List.getElem?_map, this] at hb; simpa using hb
    have := hs i j (Nat.zero_le _) hij (by omega)
    unfold ltOf at this
    rw [decide_eq_false_iff_not] at this
    change ¬ cmpIt d'[j]!.it d'[i]!.it < 0 at this
    rw [ea, eb] at this
    exact this
  · rw [hw]
    refine ⟨_, sortW_row _ _ _ _ _ _ h1, by rw [hlen']; exact h2, fun j it hj => ?_⟩
    have hlt2 : j < d'.size := by have := (List.getElem?_eq_some_iff.1 hj).1; simpa using this
    obtain ⟨q1, q2⟩ := flat_at d' hj
    rw [if_pos (by rw [size_flatK]; omega), if_pos (by rw [size_flatK]; omega)]
    exact ⟨q1, q2⟩

set_option maxRecDepth 100000 in
set_option maxHeartbeats 2000000 in
/-- (*sorter).sort: behind it the list holds the items in order, equal ones once. sx: the sorter's block. -/
theorem sort_any (sx g cap : Nat) (L : List NItem) (w : World) (hL : Lst w g (cap * 2) L) (hcap : L.length ≤ cap) (hlen : L.length ≤ 4611686018427387903) (hok : ∀ it ∈ L, ItemOk w g it)
    (hS : w.rowIs sx 81 2 (fun j => if j = 0 then .slice (some ⟨g, 0, none⟩) L.length cap else .func (Fn.func 51) #[] #[])) (hsx : sx ≠ g) :
    Calls Tryz.prog 52 #[.pointer (some ⟨sx, 0, none⟩)] w fun e w' =>
      ∃ L', e = .returned (.tuple #[]) ∧ L'.Perm L ∧ SortedL L' ∧ Lst w' g (cap * 2) (compact L') ∧ w'.cell? ⟨sx, 0, none⟩ = some (.slice (some ⟨g, 0, none⟩) (compact L').length cap) ∧ w'.rowIs sx 81 2 (fun j => if j = 0 then .slice (some ⟨g, 0, none⟩) (compact L').length cap else .func (Fn.func 51) #[] #[]) ∧
        (∀ k, k < w.heap.size → k ≠ g → k ≠ sx → w'.heap[k]? = w.heap[k]?) ∧ w.heap.size ≤ w'.heap.size ∧ w'.os = w.os ∧ w'.tape = w.tape ∧ w'.output = w.output := by
  have HL := Lib.hid hL
  have HOK := Lib.hid hok
  have HS := Lib.hid hS
  have HN := Lib.hid hsx
  have hglt : g < w.heap.size := by obtain ⟨f, h1, _⟩ := hL; exact h1.lt
  have hslt := hS.lt
  clear hL hok hS hsx
  go_enter Tryz.func52, Tryz.ntmps52
  go_wp2_with fail
  have c0 : (w.alloc (.cells #[.pointer (some ⟨sx, 0, none⟩)] 127)).drew.cell? ⟨w.heap.size, 0, none⟩ = some (.pointer (some ⟨sx, 0, none⟩)) := by go_simp
  have HE0 : Hid (Ext w (w.alloc (.cells #[.pointer (some ⟨sx, 0, none⟩)] 127)).drew) := Lib.hid ((Ext.refl _).alloc _).drew
  have hz0 : w.heap.size < (w.alloc (.cells #[.pointer (some ⟨sx, 0, none⟩)] 127)).drew.heap.size := by simp [World.drew]
  generalize w.alloc (.cells #[.pointer (some ⟨sx, 0, none⟩)] 127) = w1 at *
  refine region_still_tail 8 (by kernel_rfl) (by kernel_rfl) ?_
  simp only [List.take_succ_cons, List.take_zero, List.drop_succ_cons, List.drop_zero]
  generalize w1.drew = w2 at *
  have s0 : w2.cell? ⟨sx, 0, none⟩ = some (.slice (some ⟨g, 0, none⟩) L.length cap) := (rowIs_ext HS.out HE0.out).cell (by omega)
  have s1 : w2.cell? ⟨sx, 1, none⟩ = some (.func (Fn.func 51) #[] #[]) := (rowIs_ext HS.out HE0.out).cell (by omega)
  iterate 8 still_step
  refine wpStill_nil ?_
  have HC := Lib.hid (sortFunc_any g cap L w2 (HL.out.ext HE0.out) (by omega) (fun it hit => (HOK.out it hit).ext HE0.out))
  clear s1
  go_wp2_with fail
  refine HC.out.mono ?_
  rintro e w3 ⟨L', rfl, hperm, hsorted, hlst, hgb⟩
  have HP := Lib.hid hperm
  have HSO := Lib.hid hsorted
  have HLS := Lib.hid hlst
  have HG3 := Lib.hid hgb
  have HLL : Hid (L'.length = L.length) := Lib.hid hperm.length_eq
  clear hperm hsorted hlst hgb HC s0
  go_wp2_with fail
  have HOK3 : Hid (∀ it ∈ L', ItemOk w3 g it) := Lib.hid (fun it hit => ((HOK.out it (HP.out.subset hit)).ext HE0.out).gb HG3.out)
  have HS3 : Hid (w3.rowIs sx 81 2 (fun j => if j = 0 then .slice (some ⟨g, 0, none⟩) L.length cap else .func (Fn.func 51) #[] #[])) := Lib.hid ((rowIs_ext HS.out HE0.out).of_block (HG3.out.block sx (Nat.lt_of_lt_of_le hslt HE0.out.size) (fun e => HN.out (by injection e))))
  have d0 : w3.cell? ⟨w.heap.size, 0, none⟩ = some (.pointer (some ⟨sx, 0, none⟩)) := gb_cell HG3.out c0 (by show w.heap.size ≠ g; omega)
  have d1 : w3.cell? ⟨sx, 0, none⟩ = some (.slice (some ⟨g, 0, none⟩) L.length cap) := HS3.out.cell (by omega)
  have d2 : w3.frozen? ⟨sx, 0, none⟩ = false := HS3.out.frozen 0
  have hcon := compactFunc_any g cap L' w.heap.size sx 0 w3.drew (HLS.out.ext ((Ext.refl _).drew)) (by rw [HLL.out]; exact hcap) (by rw [HLL.out]; omega) (fun it hit => (HOK3.out it hit).ext ((Ext.refl _).drew)) d0 (show w3.drew.cell? ⟨sx, 0 + 1, none⟩ = _ from HS3.out.cell (i := 1) (by omega)) (by omega) HN.out
  rw [HLL.out] at hcon
  have HC := Lib.hid hcon
  clear hcon c0
  have HG4 : Hid (w2.grownBy w3.drew (some g)) := Lib.hid (gb_trans HG3.out (gb_of_ext ((Ext.refl _).drew) g))
  go_region_law (go_simp; go_at_call 98; refine HC.out.mono ?_; rintro e w5 ⟨rfl, hlst, hgb⟩; have HLS5 := Lib.hid hlst; have HG5 := Lib.hid hgb; have HS5 : Hid (w5.rowIs sx 81 2 (fun j => if j = 0 then .slice (some ⟨g, 0, none⟩) L.length cap else .func (Fn.func 51) #[] #[])) := Lib.hid (HS3.out.of_block (hgb.block sx HS3.out.lt (fun e => HN.out (by injection e)))); have f0 : w5.cell? ⟨w.heap.size, 0, none⟩ = some (.pointer (some ⟨sx, 0, none⟩)) := gb_cell hgb d0 (by show w.heap.size ≠ g; omega); have f1 : w5.cell? ⟨sx, 0, none⟩ = some (.slice (some ⟨g, 0, none⟩) L.length cap) := HS5.out.cell (by omega); have f2 : w5.frozen? ⟨sx, 0, none⟩ = false := HS5.out.frozen 0; clear hlst hgb)
  all_goals
    go_wp2_with fail
    go_end0
    have hrow := (HS5.out.set 0 (.slice (some ⟨g, 0, none⟩) (compact L').length cap)).congr (g := fun j => if j = 0 then .slice (some ⟨g, 0, none⟩) (compact L').length cap else .func (Fn.func 51) #[] #[]) (fun j hj => by
      match j, hj with
      | 0, _ => rfl
      | 1, _ => rfl)
    have hgg := gb_trans (gb_trans (gb_of_ext HE0.out g) HG4.out) HG5.out
    refine ⟨L', rfl, HP.out, HSO.out, ?_, hrow.cell (by omega), hrow, fun k hk hkg hks => ?_, ?_, hgg.os, hgg.tape, hgg.output⟩
    · obtain ⟨f, q1, q2, q3⟩ := HLS5.out
      exact ⟨f, q1.setOther (Ne.symm HN.out) _, q2, q3⟩
    · rw [Below.heap_setCell _ _ _ _ hks]
      exact hgg.block k hk (fun e => hkg (by injection e))
    · simpa [World.setCell] using hgg.size

end Go.Proofs.YtennjcjjegbhgaaGreat

/-
  The walk of (*sorter).sort at a nil list.
-/
namespace Go.Proofs.YtennjcjjegbhgaaGreat
open Go.RowKit

set_option maxRecDepth 100000 in
set_option maxHeartbeats 1000000 in
theorem sortFunc_nil (w : World) :
    Calls Tryz.prog 97 #[.slice none 0 0, .func (Fn.func 51) #[] #[]] w fun e w' => e = .returned (.tuple #[]) ∧ ∃ n, w' = w.drewN n := by
  have hl : ∀ w, Calls Tryz.prog 136 #[.int .u64 0] w fun e w' => e = .returned (.int .i64 0) ∧ w = w' := fun w => by
    go_enter Tryz.func136, Tryz.ntmps136
    go_wp2
    go_ret
    refine ⟨?_, rfl⟩
    show Ending.returned (.int .i64 (wrap64 (wrap64 (Lib.len8 0)))) = _
    rw [show Lib.len8 0 = 0 from by decide +kernel, IntWalk.wrap64_in 0 ⟨by omega, by omega⟩, IntWalk.wrap64_in 0 ⟨by omega, by omega⟩]
  have hi : ∀ w, Calls Tryz.prog 155 #[.slice none 0 0, .int .i64 0, .int .i64 0, .func (Fn.func 51) #[] #[]] w fun e w' => e = .returned (.tuple #[]) ∧ w = w' := fun w => by
    go_enter Tryz.func155, Tryz.ntmps155
    go_wp2
    refine wp_loop_rounds 1 ?_
    rw [rounds_succ]
    go_wp2
    go_end0
    exact ⟨rfl, rfl⟩
  have hp : ∀ w, Calls Tryz.prog 135 #[.slice none 0 0, .int .i64 0, .int .i64 0, .int .i64 0, .func (Fn.func 51) #[] #[]] w fun e w' => e = .returned (.tuple #[]) ∧ w = w' := fun w => by
    have HI := Lib.hid hi
    clear hi hl
    go_enter Tryz.func135, Tryz.ntmps135
    go_wp2_with fail
    refine wp_loop_rounds 1 ?_
    rw [rounds_succ]
    go_wp2_with (go_at_call 155; refine (HI.out _).mono ?_; rintro e w' ⟨rfl, rfl⟩)
    refine bodyPost_ret (results_none rfl _ _ _) rfl ?_
    exact ⟨rfl, rfl⟩
  have HP := Lib.hid hp
  have HLn := Lib.hid hl
  clear hp hl hi
  go_enter Tryz.func97, Tryz.ntmps97
  go_wp2_with (first | (go_at_call 136; refine (HLn.out _).mono ?_; rintro e w' ⟨rfl, rfl⟩) | (go_at_call 135; refine (HP.out _).mono ?_; rintro e w' ⟨rfl, rfl⟩))
  go_end0
  exact ⟨rfl, 0, rfl⟩

theorem compactFunc_nil (w : World) (fv : Value) :
    Calls Tryz.prog 98 #[.slice none 0 0, fv] w fun e w' => e = .returned (.slice none 0 0) ∧ w = w' := by
  go_enter Tryz.func98, Tryz.ntmps98
  go_wp2_with fail
  go_ret
  exact ⟨rfl, rfl⟩

set_option maxRecDepth 100000 in
set_option maxHeartbeats 2000000 in
theorem sort_nil (sx : Nat) (w : World) (hS : w.rowIs sx 81 2 (fun j => if j = 0 then .slice none 0 0 else .func (Fn.func 51) #[] #[])) :
    Calls Tryz.prog 52 #[.pointer (some ⟨sx, 0, none⟩)] w fun e w' =>
      e = .returned (.tuple #[]) ∧ w'.cell? ⟨sx, 0, none⟩ = some (.slice none 0 0) ∧
        (∀ k, k < w.heap.size → k ≠ sx → w'.heap[k]? = w.heap[k]?) ∧ w.heap.size ≤ w'.heap.size ∧ w'.os = w.os ∧ w'.tape = w.tape ∧ w'.output = w.output := by
  have HS := Lib.hid hS
  have hslt := hS.lt
  clear hS
  go_enter Tryz.func52, Tryz.ntmps52
  go_wp2_with fail
  have c0 : (w.alloc (.cells #[.pointer (some ⟨sx, 0, none⟩)] 127)).drew.cell? ⟨w.heap.size, 0, none⟩ = some (.pointer (some ⟨sx, 0, none⟩)) := by go_simp
  have HE0 : Hid (Ext w (w.alloc (.cells #[.pointer (some ⟨sx, 0, none⟩)] 127)).drew) := Lib.hid ((Ext.refl _).alloc _).drew
  generalize w.alloc (.cells #[.pointer (some ⟨sx, 0, none⟩)] 127) = w1 at *
  refine region_still_tail 8 (by kernel_rfl) (by kernel_rfl) ?_
  simp only [List.take_succ_cons, List.take_zero, List.drop_succ_cons, List.drop_zero]
  generalize w1.drew = w2 at *
  have s0 : w2.cell? ⟨sx, 0, none⟩ = some (.slice none 0 0) := (rowIs_ext HS.out HE0.out).cell (by omega)
  have s1 : w2.cell? ⟨sx, 1, none⟩ = some (.func (Fn.func 51) #[] #[]) := (rowIs_ext HS.out HE0.out).cell (by omega)
  iterate 8 still_step
  refine wpStill_nil ?_
  have HC := Lib.hid (sortFunc_nil w2)
  clear s1
  go_wp2_with fail
  refine HC.out.mono ?_
  rintro e w3 ⟨rfl, n, rfl⟩
  have HE3 := Lib.hid (HE0.out.drewN n)
  have d0 : (w2.drewN n).cell? ⟨w.heap.size, 0, none⟩ = some (.pointer (some ⟨sx, 0, none⟩)) := c0
  have d1 : (w2.drewN n).cell? ⟨sx, 0, none⟩ = some (.slice none 0 0) := s0
  have d2 : (w2.drewN n).frozen? ⟨sx, 0, none⟩ = false := (rowIs_ext HS.out HE3.out).frozen 0
  clear HC s0 c0 HE0
  generalize w2.drewN n = w3 at *
  have HC : Hid (∀ (w : World) (fv : Value), Calls Tryz.prog 98 #[.slice none 0 0, fv] w fun e w' => e = .returned (.slice none 0 0) ∧ w = w') := Lib.hid compactFunc_nil
  go_wp2_with fail
  go_region_law (go_simp; go_at_call 98; refine (HC.out _ _).mono ?_; rintro e w5 ⟨rfl, rfl⟩)
  all_goals
    go_wp2_with fail
    go_end0
    refine ⟨rfl, ?_, fun k hk hks => ?_, ?_, HE3.out.os, HE3.out.tape, HE3.out.output⟩
    · exact (((rowIs_ext HS.out HE3.out).drew.set 0 (.slice none 0 0)).cell (i := 0) (by omega))
    · show ((w3.drew.setCell ⟨sx, 0, none⟩ (.slice none 0 0)).heap[k]?) = _
      rw [Below.heap_setCell _ _ _ _ hks]
      exact HE3.out.block k hk
    · have := HE3.out.size
      simpa [World.setCell, World.drew] using this

end Go.Proofs.YtennjcjjegbhgaaGreat

/-
  The walk of vector.SortUnique.
-/
namespace Go.Proofs.YtennjcjjegbhgaaGreat
open Go.RowKit

theorem Tryz.infoKeyed : (Tryz.prog.info? 83).map (fun i => (i.zero, i.size, i.bytes)) = some (some (.agg #[.int .i64 0, .slice none 0 0]), 2, 32) := by kernel_rfl

/-- The norm of a vector, none beyond MaxNorm. -/
def normO (rows : List (List Int)) (x : List Int) : Option Int :=
  if -4611686018427387904 ≤ accZ x (applyM rows x) x.length ∧ accZ x (applyM rows x) x.length ≤ 4611686018427387904 then some (accZ x (applyM rows x) x.length) else none
/-- What SortUnique makes of one element. -/
def itemO (rows : List (List Int)) (x : List Int) : Option (Int × List Int) :=
  if FitB rows.length x then (match normO rows x, canonS x with
    | some k, some y => some (k, y)
    | _, _ => none) else none
def itemsO (rows : List (List Int)) : List (List Int) → Option (List (Int × List Int))
  | [] => some []
  | x :: l => match itemO rows x, itemsO rows l with
    | some a, some b => some (a :: b)
    | _, _ => none
theorem itemsO_none {rows : List (List Int)} : ∀ {l : List (List Int)} {k : Nat} {x : List Int}, l[k]? = some x → itemO rows x = none → itemsO rows l = none
  | [], _, _, h, _ => by simp at h
  | a :: l, 0, x, h, h' => by simp at h; subst h; simp [itemsO, h']
  | a :: l, k + 1, x, h, h' => by
    simp at h
    have := itemsO_none h h'
    simp [itemsO, this]
def NItem.dat (it : NItem) : Int × List Int := (it.key, it.vals)
theorem itemsO_some {rows : List (List Int)} : ∀ {l : List (List Int)} {L : List NItem}, L.length = l.length → (∀ (j : Nat) (it : NItem), L[j]? = some it → ∃ x, l[j]? = some x ∧ itemO rows x = some it.dat) → itemsO rows l = some (L.map NItem.dat)
  | [], [], _, _ => rfl
  | [], _ :: _, h, _ => by simp at h
  | _ :: _, [], h, _ => by simp at h
  | x :: l, it :: L, h, hh => by
    have h1 := hh 0 it rfl
    simp at h1
    have h2 := itemsO_some (rows := rows) (l := l) (L := L) (by simpa using h) (fun j it' hj => by
      obtain ⟨y, q1, q2⟩ := hh (j + 1) it' (by simpa using hj)
      exact ⟨y, by simpa using q1, q2⟩)
    simp [itemsO, h1, h2]

def flatIt (L : List NItem) : List Value := L.flatMap encIt
theorem flatIt_snoc (L : List NItem) (it : NItem) : flatIt L ++ encIt it = flatIt (L ++ [it]) := by simp [flatIt]
theorem flatIt_at : ∀ {L : List NItem} {j : Nat} {it : NItem}, L[j]? = some it → (flatIt L)[j * 2]? = some (.int .i64 it.key) ∧ (flatIt L)[j * 2 + 1]? = some it.val
  | [], _, _, h => by simp at h
  | a :: L, 0, it, h => by simp at h; subst h; simp [flatIt, encIt, NItem.val]
  | a :: L, j + 1, it, h => by
    simp at h
    obtain ⟨h1, h2⟩ := flatIt_at h
    have e : flatIt (a :: L) = .int .i64 a.key :: a.val :: flatIt L := by simp [flatIt, encIt, NItem.val]
    rw [e, show (j + 1) * 2 = j * 2 + 1 + 1 from by omega, show j * 2 + 1 + 1 + 1 = (j * 2 + 1) + 1 + 1 from rfl]
    simp only [List.getElem?_cons_succ]
    exact ⟨h1, h2⟩
theorem oneCell_it (it : NItem) : ∀ u ∈ encIt it, u.oneCell' = true := by
  intro u hu
  simp [encIt] at hu
  rcases hu with rfl | rfl <;> rfl

/-- The sorter's two cells. -/
def srtF (v : Value) : Nat → Value := fun j => if j = 0 then v else .func (Fn.func 51) #[] #[]

/-- An item's vector lies in w, outside the block of the slice v. -/
def ItemV (w : World) (sx : Nat) (v : Value) (it : NItem) : Prop := RdI .i64 w it.at_ it.vals ∧ (it.vals.length ≤ 9223372036854775807 ∧ it.vals.length ≤ it.cap) ∧ ∀ p, it.at_ = some p → v.ownBlock ≠ some p.block ∧ p.block ≠ sx ∧ p.block < w.heap.size

def SUPost (w' : World) (r : Option (List (Int × List Int))) (e : Ending) : Prop := match r with
  | none => e = .returned (.tuple #[.slice none 0 0, .bool false])
  | some ks => ∃ L : List NItem, (L.map NItem.dat).Perm ks ∧ SortedL L ∧ ∃ A, e = .returned (.tuple #[.slice A (compact L).length (compact L).length, .bool true]) ∧ RdM .i64 w' A ((compact L).map NItem.vals)

theorem dotV_some {rows : List (List Int)} {x : List Int} {k : Int} (h : normO rows x = some k) : dotV (accZ x (applyM rows x) x.length) = .tuple #[.int .i64 k, .bool true] := by
  unfold normO at h
  split at h
  · cases h; unfold dotV; rw [if_pos (by assumption)]
  · cases h
theorem dotV_none {rows : List (List Int)} {x : List Int} (h : normO rows x = none) : dotV (accZ x (applyM rows x) x.length) = .tuple #[.int .i64 0, .bool false] := by
  unfold normO at h
  split at h
  · cases h
  · unfold dotV; rw [if_neg (by assumption)]

theorem compGo_mem : ∀ {l : List NItem} {p it : NItem}, it ∈ compGo p l → it ∈ l
  | [], _, _, h => by simp [compGo] at h
  | b :: l, p, it, h => by
    unfold compGo at h
    split at h
    · exact List.mem_cons_of_mem _ (compGo_mem h)
    · rcases List.mem_cons.1 h with rfl | h
      · exact List.mem_cons_self
      · exact List.mem_cons_of_mem _ (compGo_mem h)
theorem compact_mem {L : List NItem} {it : NItem} (h : it ∈ compact L) : it ∈ L := by
  cases L with
  | nil => simp [compact] at h
  | cons a l =>
    unfold compact at h
    rcases List.mem_cons.1 h with rfl | h
    · exact List.mem_cons_self
    · exact List.mem_cons_of_mem _ (compGo_mem h)
theorem compGo_len : ∀ (l : List NItem) (p : NItem), (compGo p l).length ≤ l.length
  | [], _ => by simp [compGo]
  | b :: l, p => by
    unfold compGo
    have := compGo_len l b
    split
    · simp; omega
    · simp; omega
theorem compact_len (L : List NItem) : (compact L).length ≤ L.length := by
  cases L with
  | nil => simp [compact]
  | cons a l => have := compGo_len l a; simp [compact]; omega

def outF (L : List NItem) (m : Nat) : Nat → Value := fun j => if j < m then (match L[j]? with | some it => it.val | none => undef) else .slice none 0 0

set_option maxRecDepth 100000 in
set_option maxHeartbeats 4000000 in
theorem sortUnique_any (A B : Option Addr) (c d : Nat) (rows l : List (List Int)) (w : World) (hR : RdM .i64 w A rows) (hl : RdM .i64 w B l) (lr : rows.length ≤ 9223372036854775807) (hc : rows.length ≤ c) (ll : l.length ≤ 65536) :
    Calls Tryz.prog 22 #[.slice A rows.length c, .slice B l.length d] w fun e w' => SUPost w' (if isReducedM rows then itemsO rows l else none) e ∧ Ext w w' := by
  have HR := Lib.hid hR
  have HL := Lib.hid hl
  clear hR hl
  cases hI : isReducedM rows with
  | false =>
    have HV : Hid ((if isReducedM rows then itemsO rows l else none) = none) := Lib.hid (by simp [hI])
    go_enter Tryz.func22, Tryz.ntmps22
    go_wp2_with (go_at_call 42; refine (isReduced_any A c rows _ HR.out lr hc).mono ?_; rintro e w1 ⟨rfl, he⟩)
    go_ret2
    exact ⟨rfl, he⟩
  | true =>
    have HSm := Lib.hid (isReducedM_small hI)
    have h8 : rows.length ≤ 8 := HSm.out.2.1
    go_enter Tryz.func22, Tryz.ntmps22
    go_wp2_with (go_at_call 42; refine (isReduced_any A c rows _ HR.out lr hc).mono ?_; rintro e w1 ⟨rfl, he⟩; have HE := Lib.hid he; clear he)
    clear hI
    obtain ⟨wo, rfl⟩ : ∃ wo : World, wo = w1 := ⟨_, rfl⟩
    go_loopw [22, 8, 9, 10, 11, 12] (fun i _ _ _ _ _ wr => ∃ (k : Nat) (L : List NItem) (v : Value), k ≤ l.length ∧ i = .int .i64 k ∧ Hid (L.length = k ∧ (k = 0 → v = .slice none 0 0)) ∧ Hid (∀ (j : Nat) (it : NItem), L[j]? = some it → ∃ x, l[j]? = some x ∧ itemO rows x = some it.dat) ∧ Hid (wr.ownsRow (wo.heap.size + 1) 83 2 v k (flatIt L)) ∧ Hid (wr.rowIs wo.heap.size 81 2 (srtF v)) ∧ Hid (Ext wo wr) ∧ Hid (∀ it ∈ L, ItemV wr wo.heap.size v it)) (fun i _ _ _ _ _ _ => l.length - (intOf i).toNat)
    case atStart =>
      refine ⟨0, [], .slice none 0 0, Nat.zero_le _, rfl, Lib.hid ⟨rfl, fun _ => rfl⟩, Lib.hid (by simp), Lib.hid (World.ownsRow_nil _ _ _ _), Lib.hid ?_, Lib.hid ?_, Lib.hid (by simp)⟩
      · refine World.rowIs_alloc wo #[.slice none 0 0, .func (Fn.func 51) #[] #[]] _ _ (fun i hi => ?_)
        match i, hi with
        | 0, _ => rfl
        | 1, _ => rfl
      · exact (Ext.refl _).alloc _
    case round =>
      obtain ⟨k, L, v, hk, rfl, HLen, HIt, HOwn, HRow, HE2, HIV⟩ := hrel
      by_cases hlt : k < l.length
      · obtain ⟨x, hx⟩ := getElem?_of_lt hlt
        obtain ⟨b, off, BX, cx, rfl, hcx, hcxl, hlx, hrx⟩ := ((HL.out.ext HE.out).ext HE2.out).at_ hx
        have HX := Lib.hid hx
        have HRX := Lib.hid hrx
        clear hx hrx
        cases hF : FitB rows.length x with
        | false =>
          have HN : Hid (itemsO rows l = none) := Lib.hid (itemsO_none HX.out (by unfold itemO; rw [hF]; rfl))
          go_wp2_with (go_at_call 43; refine (fits_any rows.length BX cx x _ HRX.out hlx).mono ?_; rintro e w2 ⟨rfl, rfl⟩)
          go_ret2
          exact ⟨by rw [HN.out]; rfl, HE.out.trans HE2.out⟩
        | true =>
          obtain ⟨hxl, hxb⟩ := FitB_iff.1 hF
          have hxle : x.length ≤ rows.length := by omega
          have hxge : rows.length ≤ x.length := by omega
          have HXB := Lib.hid hxb
          have HF := Lib.hid hF
          have HA := Lib.hid (applyM_bd HSm.out hxb)
          have HAL := Lib.hid (applyM_length rows x)
          clear hxl hxb
          go_wp2_with (go_at_call 43; refine (fits_any rows.length BX cx x _ HRX.out hlx).mono ?_; rintro e w2 ⟨rfl, rfl⟩)
          clear hF
          refine (apply_any A BX c cx rows x _ ((HR.out.ext HE.out).ext HE2.out) HRX.out (by omega) (fun i hi => by rw [HSm.out.2.2.1 i hi]; exact hxge) hlx).mono ?_
          rintro e w3 ⟨rfl, hrd, he3⟩
          have hcon := dot_any BX (some ⟨wr.heap.size, 0, none⟩) cx rows.length x (applyM rows x) w3 (HRX.out.ext he3) hrd (by rw [HAL.out]; exact hxle) (by omega) (by rw [HAL.out]; omega) (fun i z hz => InB_bounds HXB.out hz) HA.out
          rw [HAL.out] at hcon
          have HC := Lib.hid hcon
          have HE3 := Lib.hid he3
          clear hcon hrd he3
          go_wp2_with fail
          cases hN : normO rows x with
          | none =>
            have hno := HC.out
            rw [dotV_none hN] at hno
            have HNone : Hid (itemsO rows l = none) := Lib.hid (itemsO_none HX.out (by unfold itemO; rw [HF.out, hN]; rfl))
            refine hno.mono ?_
            rintro e w4 ⟨rfl, he4⟩
            have HE4 := Lib.hid (HE3.out.trans he4)
            clear he4 hno HC hN
            go_wp2_with fail
            refine (canonicalSign_any BX cx x _ (HRX.out.ext HE4.out) (by omega)).mono ?_
            rintro e w5 ⟨hcv, he5⟩
            have HE5 := Lib.hid (((HE.out.trans HE2.out).trans HE4.out).trans he5)
            clear he5
            have hform : ∃ va vb, e = .returned (.tuple #[va, .bool vb]) := by
              unfold canonV at hcv
              split at hcv
              · exact ⟨_, _, hcv⟩
              · obtain ⟨A', c', h, _⟩ := hcv; exact ⟨_, _, h⟩
            obtain ⟨va, vb, rfl⟩ := hform
            clear hcv
            go_wp2_with fail
            go_ret2
            exact ⟨by rw [HNone.out]; rfl, HE5.out⟩
          | some key =>
            have hno := HC.out
            rw [dotV_some hN] at hno
            refine hno.mono ?_
            rintro e w4 ⟨rfl, he4⟩
            have HE4 := Lib.hid (HE3.out.trans he4)
            have HNo := Lib.hid hN
            clear he4 hno HC hN
            go_wp2_with fail
            refine (canonicalSign_any BX cx x _ (HRX.out.ext HE4.out) (by omega)).mono ?_
            rintro e w5 ⟨hcv, he5⟩
            have HE5 := Lib.hid (HE4.out.trans he5)
            clear he5
            cases hS : canonS x with
            | none =>
              have HNone : Hid (itemsO rows l = none) := Lib.hid (itemsO_none HX.out (by unfold itemO; rw [HF.out, HNo.out, hS]; rfl))
              rw [hS] at hcv
              obtain rfl := hcv
              clear hS
              go_wp2_with fail
              go_ret2
              exact ⟨by rw [HNone.out]; rfl, (HE.out.trans HE2.out).trans HE5.out⟩
            | some y =>
              rw [hS] at hcv
              obtain ⟨AY, cy, rfl, hcy, hry, hby⟩ := hcv
              have HIO : Hid (itemO rows x = some (key, y)) := Lib.hid (by unfold itemO; rw [HF.out, HNo.out, hS]; rfl)
              have HRY := Lib.hid hry
              have HBY := Lib.hid hby
              have HYL : Hid (y.length = x.length) := Lib.hid (by
                unfold canonS at hS
                split at hS
                · split at hS
                  · cases hS
                  · cases hS; split <;> simp
                · cases hS)
              clear hS hry hby
              have HO5 := Lib.hid (ownsRow_ext HOwn.out HE5.out)
              have HR5 := Lib.hid (rowIs_ext HRow.out HE5.out)
              have t0 : w5.cell? ⟨wo.heap.size, 0, none⟩ = some v := HR5.out.cell (by omega)
              have t1 : w5.frozen? ⟨wo.heap.size, 0, none⟩ = false := HR5.out.frozen 0
              have hslt : wo.heap.size < w5.heap.size := HR5.out.lt
              have HRd : Hid (Rd (w5.alloc (.cells #[.int .i64 key, .slice AY y.length cy] 83)) (some ⟨w5.heap.size, 0, none⟩) (encIt ⟨key, y, AY, cy⟩)) := Lib.hid (fun _ => ⟨w5.heap.size, 0, rfl, fun i u hu => by
                match i, hu with
                | 0, hu => simp [encIt] at hu; subst hu; go_simp
                | 1, hu => simp [encIt] at hu; subst hu; go_simp⟩)
              go_wp2_with (at_builtin; refine wpList_append_rd _ rfl (.tmp 51) (.tmp 55) _ rfl (wo.heap.size + 1) 83 (.agg #[.int .i64 0, .slice none 0 0]) 2 32 Tryz.underlying79 Tryz.infoKeyed rfl (by omega) v k (flatIt L) rfl (HO5.out.alloc _) (some ⟨w5.heap.size, 0, none⟩) 1 1 _ rfl HRd.out rfl (oneCell_it _) (by simp only [maxLen]; omega) (by omega) (by simp; omega) ?_; intro v6 w6 hown6 hg6 hb6; have HO6 := Lib.hid hown6; have HG6 := Lib.hid hg6; have HB6 := Lib.hid hb6; have hz6 : w5.heap.size + 1 ≤ w6.heap.size := (by have := hg6.size; simpa using this); have s0 : w6.cell? ⟨wo.heap.size, 0, none⟩ = some v := (by refine hg6.cell (a := ⟨wo.heap.size, 0, none⟩) (by rw [World.cell?_alloc_lt _ _ _ hslt]; exact t0) (fun e => ?_); have := (HO5.out.lt _ e.symm).1; simp at this; omega); have s1 : w6.frozen? ⟨wo.heap.size, 0, none⟩ = false := (by rw [World.frozen?_of_block (hg6.block wo.heap.size (by simp; omega) (fun e => by have := (HO5.out.lt _ e.symm).1; omega))]; rw [World.frozen?_of_block (Below.heap_alloc _ _ _ hslt)]; exact t1); obtain ⟨g6, cap6, f6, rfl, _, _, _, _, _⟩ := own_block2 hown6 (by omega); clear hown6 hg6 hb6 t0 t1)
              go_roundw
              case rel =>
                have hne : ∀ j, v.ownBlock = some j → wo.heap.size + 1 ≤ j := fun j hj => (HO5.out.lt j hj).1
                have hw5 : Ext wo (w5.alloc (.cells #[.int .i64 key, .slice AY y.length cy] 83)) := (HE2.out.trans HE5.out).alloc _
                have hw6 : Ext wo w6 := hw5.grown HG6.out (fun j hj => by have := hne j hj; omega)
                have hr6 : w6.rowIs wo.heap.size 81 2 (srtF v) := (HR5.out.alloc _).of_block (HG6.out.block wo.heap.size (by simp; omega) (fun e => by have := hne _ e.symm; omega))
                refine ⟨k + 1, L ++ [⟨key, y, AY, cy⟩], .slice (some ⟨g6, 0, none⟩) (k + 1) cap6, by omega, by go_num, Lib.hid ⟨by simp [HLen.out.1], fun h => by omega⟩, Lib.hid (fun j it hj => ?_), Lib.hid ?_, Lib.hid ?_, Lib.hid (hw6.setCell (Nat.le_refl _) _), Lib.hid (fun it hit => ?_)⟩
                · rcases Nat.lt_or_ge j L.length with h | h
                  · rw [List.getElem?_append_left h] at hj
                    exact HIt.out j it hj
                  · rw [List.getElem?_append_right h] at hj
                    have hj0 : j - L.length = 0 := by
                      rcases Nat.eq_zero_or_pos (j - L.length) with h0 | h0
                      · exact h0
                      · rw [List.getElem?_eq_none (by simp; omega)] at hj; cases hj
                    rw [hj0] at hj
                    simp at hj
                    subst hj
                    have : j = k := by have := HLen.out.1; omega
                    subst this
                    exact ⟨x, HX.out, HIO.out⟩
                · rw [← flatIt_snoc]
                  exact ownsRow_setCell_below HO6.out (by show wo.heap.size < wo.heap.size + 1; omega) _
                · exact (hr6.set 0 _).congr (fun j hj => by
                    match j, hj with
                    | 0, _ => rfl
                    | 1, _ => rfl)
                · rcases List.mem_append.1 hit with h | h
                  · obtain ⟨q1, q2, q3⟩ := HIV.out it h
                    have r5 : RdI .i64 (w5.alloc (.cells #[.int .i64 key, .slice AY y.length cy] 83)) it.at_ it.vals := q1.ext (HE5.out.alloc _)
                    have hsz := HE5.out.size
                    refine ⟨fun hn => ?_, q2, fun p hp => ?_⟩
                    · obtain ⟨b', off', hb', hc'⟩ := r5 hn
                      obtain ⟨q4, q5, q6⟩ := q3 _ hb'
                      refine ⟨b', off', hb', fun i u hu => ?_⟩
                      rw [World.cell?_setCell_other _ _ _ _ (fun e => by have := congrArg Addr.block e; simp at this q5; omega)]
                      exact HG6.out.cell (hc' i u hu) (fun e => q4 e.symm)
                    · obtain ⟨q4, q5, q6⟩ := q3 p hp
                      refine ⟨fun e => ?_, q5, by simp [World.setCell]; omega⟩
                      rcases HB6.out with h6 | h6
                      · rw [h6] at e; exact q4 e
                      · rw [h6] at e
                        injection e with e
                        simp at e; omega
                  · simp at h
                    subst h
                    have r5 : RdI .i64 (w5.alloc (.cells #[.int .i64 key, .slice AY y.length cy] 83)) AY y := HRY.out.ext ((Ext.refl _).alloc _)
                    have hsz := HE4.out.size
                    have hs2 := HE2.out.size
                    have hrl := HRow.out.lt
                    have ho := HOwn.out
                    have q3 : ∀ p, AY = some p → v.ownBlock ≠ some p.block ∧ p.block ≠ wo.heap.size ∧ p.block < w5.heap.size := fun p hp => by
                      obtain ⟨h1, h2⟩ := HBY.out p hp
                      refine ⟨fun e => ?_, by omega, h2⟩
                      have := (ho.lt _ e).2
                      omega
                    refine ⟨fun hn => ?_, ⟨by show y.length ≤ _; rw [HYL.out]; omega, hcy⟩, fun p hp => ?_⟩
                    · obtain ⟨b', off', hb', hc'⟩ := r5 hn
                      obtain ⟨q4, q5, q6⟩ := q3 _ hb'
                      refine ⟨b', off', hb', fun i u hu => ?_⟩
                      rw [World.cell?_setCell_other _ _ _ _ (fun e => by have := congrArg Addr.block e; simp at this q5; omega)]
                      exact HG6.out.cell (hc' i u hu) (fun e => q4 e.symm)
                    · obtain ⟨q4, q5, q6⟩ := q3 p hp
                      refine ⟨fun e => ?_, q5, by simp [World.setCell]; omega⟩
                      rcases HB6.out with h6 | h6
                      · rw [h6] at e; exact q4 e
                      · rw [h6] at e
                        injection e with e
                        simp at e; omega
              case measure => simp [intOf]; omega
      · have hkl : k = l.length := by omega
        have HIO : Hid (itemsO rows l = some (L.map NItem.dat)) := Lib.hid (itemsO_some (by rw [HLen.out.1, hkl]) HIt.out)
        by_cases hk0 : 0 < k
        · obtain ⟨g, cap, f, rfl, hcap, hcm, hg, hrow, hf⟩ := own_block2 HOwn.out hk0
          have HLst : Hid (Lst wr g (cap * 2) L) := Lib.hid ⟨f, hrow, by rw [HLen.out.1]; omega, fun j it hj => by
            obtain ⟨q1, q2⟩ := flatIt_at hj
            exact ⟨hf _ _ q1, hf _ _ q2⟩⟩
          have HIV2 := Lib.hid HIV.out
          have hcon := sort_any wo.heap.size g cap L wr HLst.out (by rw [HLen.out.1]; exact hcap) (by rw [HLen.out.1]; omega) (fun it hit => by
            obtain ⟨q1, q2, q3⟩ := HIV.out it hit
            exact ⟨q1, fun p hp e => (q3 p hp).1 (by simp [Value.ownBlock, e]), q2.1⟩) (by rw [HLen.out.1]; exact HRow.out) (by omega)
          have HC := Lib.hid hcon
          have hglt := hrow.lt
          have hslt := HRow.out.lt
          clear hcon hf hrow hkl
          go_wp2_with fail
          refine HC.out.mono ?_
          rintro e w5 ⟨L', rfl, hperm, hsort, hlst, hcell, hrow5, hblk, hsz, h1, h2, h3⟩
          have HP := Lib.hid hperm
          have HSo := Lib.hid hsort
          have HL5 := Lib.hid hlst
          have HE5 : Hid (Ext wo w5) := Lib.hid ⟨h1.trans HE2.out.os, h2.trans HE2.out.tape, h3.trans HE2.out.output, Nat.le_trans HE2.out.size hsz, fun j hj => by
            rw [hblk j (Nat.lt_of_lt_of_le hj HE2.out.size) (by omega) (by omega)]
            exact HE2.out.block j hj⟩
          have HIt5 : Hid (∀ it ∈ compact L', SlI .i64 w5 it.val it.vals) := Lib.hid (fun it hit => by
            obtain ⟨q1, q2, q3⟩ := HIV.out it (hperm.subset (compact_mem hit))
            refine ⟨it.at_, it.cap, rfl, q2.2, q2.1, fun hn => ?_⟩
            obtain ⟨b', off', hb', hc'⟩ := q1 hn
            obtain ⟨r1, r2, r3⟩ := q3 _ hb'
            refine ⟨b', off', hb', fun i u hu => ?_⟩
            rw [World.cell?_of_block (w := wr) (hblk b' r3 (fun e => r1 (by simp [Value.ownBlock, e])) r2)]
            exact hc' i u hu)
          have hm : (compact L').length ≤ 65536 := by
            have h1 := compact_len L'
            have h2 := hperm.length_eq
            rw [HLen.out.1] at h2
            omega
          have hmk := run_make_row' (P := Tryz.prog) 22 23 (.slice none 0 0) 24 Tryz.underlying22 Tryz.infoSlI64 rfl .i64 .i64 (compact L').length (by omega) (by omega)
          have hcell2 : ∀ o, (w5.alloc o).cell? ⟨wo.heap.size, 0, none⟩ = some (.slice (some ⟨g, 0, none⟩) (compact L').length cap) := fun o => by rw [World.cell?_alloc_lt _ _ _ (by show wo.heap.size < _; omega)]; exact hcell
          have HS0 := Lib.hid (World.rowIs_made w5 (.slice none 0 0) (compact L').length 23)
          clear hperm hsort hlst hrow5 hblk h1 h2 h3 HC
          go_wp2_with fail
          clear hmk hcell2 hcell
          go_loopw [67, 14, 15] (fun i _ _ wx => ∃ m : Nat, m ≤ (compact L').length ∧ i = .int .i64 m ∧ Hid (wx.rowIs w5.heap.size 23 (compact L').length (outF (compact L') m)) ∧ Hid (Ext w5 wx)) (fun i _ _ _ => (compact L').length - (intOf i).toNat)
          case atStart => exact ⟨0, Nat.zero_le _, rfl, Lib.hid (HS0.out.congr (fun j _ => by simp [outF])), Lib.hid ((Ext.refl _).alloc _)⟩
          case round =>
            clear HS0
            obtain ⟨wp, rfl⟩ : ∃ wp : World, wp = wr := ⟨_, rfl⟩
            obtain ⟨m, hmm, rfl, HO, HX5⟩ := hrel
            by_cases hml : m < (compact L').length
            · obtain ⟨it, hit⟩ := getElem?_of_lt hml
              have HIT := Lib.hid hit
              have t1 := (HL5.out.ext HX5.out).cell0 hit
              have t2 := (HL5.out.ext HX5.out).cell1 hit
              have hlt5 := HO.out.lt
              have t3 : ∀ o, (wp.alloc o).cell? ⟨w5.heap.size, m, none⟩ = some (.slice none 0 0) := fun o => by
                rw [(HO.out.alloc o).cell hml]; simp [outF]
              have t4 : ∀ o, (wp.alloc o).frozen? ⟨w5.heap.size, m, none⟩ = false := fun o => (HO.out.alloc o).frozen m
              clear hit
              go_wp2_with fail
              go_roundw
              case rel =>
                refine ⟨m + 1, by omega, by go_num, Lib.hid (((HO.out.set m _).congr (fun j _ => ?_)).alloc _), Lib.hid ((HX5.out.setCell (Nat.le_refl _) _).alloc _)⟩
                unfold outF
                by_cases e : j = m
                · subst e
                  rw [if_pos rfl, if_pos (by omega), HIT.out]; rfl
                · rw [if_neg e]
                  by_cases e2 : j < m
                  · rw [if_pos e2, if_pos (by omega)]
                  · rw [if_neg e2, if_neg (by omega)]
              case measure => simp [intOf]; omega
            · go_wp2_with fail
              go_ret2
              have hmeq : m = (compact L').length := by omega
              refine ⟨?_, (HE.out.trans HE5.out).trans HX5.out⟩
              rw [HIO.out]
              refine ⟨L', HP.out.map NItem.dat, HSo.out, some ⟨w5.heap.size, 0, none⟩, rfl, fun _ => ⟨w5.heap.size, 0, rfl, fun i r hr => ?_⟩⟩
              rw [List.getElem?_map] at hr
              cases hci : (compact L')[i]? with
              | none => rw [hci] at hr; cases hr
              | some it =>
                rw [hci] at hr
                simp at hr
                subst hr
                have hil := (List.getElem?_eq_some_iff.1 hci).1
                refine ⟨it.val, ?_, ?_⟩
                · rw [Nat.zero_add, HO.out.cell hil]
                  unfold outF
                  rw [if_pos (by omega), hci]
                · exact (HIt5.out it (List.mem_of_getElem? hci)).ext HX5.out
        · have hv := HLen.out.2 (by omega)
          have hL0 : L = [] := List.eq_nil_of_length_eq_zero (by rw [HLen.out.1]; omega)
          subst hv hL0
          have HC := Lib.hid (sort_nil wo.heap.size wr HRow.out)
          have hslt := HRow.out.lt
          clear hkl
          go_wp2_with fail
          refine HC.out.mono ?_
          rintro e w5 ⟨rfl, hcell, hblk, hsz, h1, h2, h3⟩
          have HE5 : Hid (Ext wo w5) := Lib.hid ⟨h1.trans HE2.out.os, h2.trans HE2.out.tape, h3.trans HE2.out.output, Nat.le_trans HE2.out.size hsz, fun j hj => by
            rw [hblk j (Nat.lt_of_lt_of_le hj HE2.out.size) (by omega)]
            exact HE2.out.block j hj⟩
          have hmk : ∀ w : World, (Instr.makeSlice 22 (.int .i64 0) (.int .i64 0)).run Tryz.prog w = .ok (.slice (some ⟨w.heap.size, 0, none⟩) 0 0) (w.alloc (.cells (madeCells #[.slice none 0 0] 0) 23)) := run_make_row' (P := Tryz.prog) 22 23 (.slice none 0 0) 24 Tryz.underlying22 Tryz.infoSlI64 rfl .i64 .i64 0 (by omega) (by omega)
          have hcell2 : ∀ o, (w5.alloc o).cell? ⟨wo.heap.size, 0, none⟩ = some (.slice none 0 0) := fun o => by rw [World.cell?_alloc_lt _ _ _ (by show wo.heap.size < _; omega)]; exact hcell
          clear hblk h1 h2 h3 HC
          go_wp2_with fail
          refine wp_loop_rounds 1 ?_
          rw [rounds_succ]
          go_wp2_with fail
          go_ret2
          refine ⟨?_, (HE.out.trans HE5.out).alloc _⟩
          rw [HIO.out]
          exact ⟨[], .refl _, (by intro i j a b _ h; simp at h), some ⟨w5.heap.size, 0, none⟩, rfl, RdM.nil _ _ _⟩

end Go.Proofs.YtennjcjjegbhgaaGreat

/-
  Plain facts: the list that SortUnique gives depends on the set of its items alone: 'uniq'.
-/
namespace Go.Proofs.YtennjcjjegbhgaaGreat
open Go.RowKit

/-- By the norm, then lexicographically. -/
def ltP (a b : Int × List Int) : Prop := a.1 < b.1 ∨ a.1 = b.1 ∧ cmpL a.2 b.2 < 0
instance (a b : Int × List Int) : Decidable (ltP a b) := inferInstanceAs (Decidable (_ ∨ _))
/-- Insertion into an ascending list, unless it is there. -/
def putP (x : Int × List Int) : List (Int × List Int) → List (Int × List Int)
  | [] => [x]
  | a :: l => if ltP a x then a :: putP x l else if ltP x a then x :: a :: l else a :: l
/-- The different elements in order. -/
def uniqP (l : List (Int × List Int)) : List (Int × List Int) := l.foldl (fun acc x => putP x acc) []

theorem ltP_irrefl (a : Int × List Int) : ¬ ltP a a := by
  unfold ltP; rw [cmpL_self]; omega
theorem ltP_trans {a b c : Int × List Int} (h1 : ltP a b) (h2 : ltP b c) : ltP a c := by
  unfold ltP at *
  rcases h1 with h1 | ⟨h1, h1'⟩ <;> rcases h2 with h2 | ⟨h2, h2'⟩
  · omega
  · omega
  · omega
  · exact .inr ⟨by omega, cmpL_trans h1' h2'⟩
theorem ltP_total {a b : Int × List Int} (h1 : ¬ ltP a b) (h2 : ¬ ltP b a) : a = b := by
  unfold ltP at *
  have ha := cmpL_anti a.2 b.2
  have e1 : a.1 = b.1 := by omega
  have e2 : cmpL a.2 b.2 = 0 := by omega
  exact Prod.ext e1 (cmpL_eq e2)

/-- Strictly ascending. -/
def Asc (l : List (Int × List Int)) : Prop := l.Pairwise ltP

theorem asc_ext : ∀ {l m : List (Int × List Int)}, Asc l → Asc m → (∀ x, x ∈ l ↔ x ∈ m) → l = m
  | [], [], _, _, _ => rfl
  | [], b :: m, _, _, h => by have := (h b).2 List.mem_cons_self; simp at this
  | a :: l, [], _, _, h => by have := (h a).1 List.mem_cons_self; simp at this
  | a :: l, b :: m, hl, hm, h => by
    obtain ⟨hl1, hl2⟩ := List.pairwise_cons.1 hl
    obtain ⟨hm1, hm2⟩ := List.pairwise_cons.1 hm
    have e : a = b := by
      rcases List.mem_cons.1 ((h a).1 List.mem_cons_self) with e | ha
      · exact e
      · rcases List.mem_cons.1 ((h b).2 List.mem_cons_self) with e | hb
        · exact e.symm
        · exact absurd (ltP_trans (hm1 a ha) (hl1 b hb)) (ltP_irrefl b)
    subst e
    rw [asc_ext hl2 hm2 (fun x => ?_)]
    constructor
    · intro hx
      rcases List.mem_cons.1 ((h x).1 (List.mem_cons_of_mem _ hx)) with e | hx'
      · subst e; exact absurd (hl1 x hx) (ltP_irrefl x)
      · exact hx'
    · intro hx
      rcases List.mem_cons.1 ((h x).2 (List.mem_cons_of_mem _ hx)) with e | hx'
      · subst e; exact absurd (hm1 x hx) (ltP_irrefl x)
      · exact hx'

theorem putP_mem {x y : Int × List Int} : ∀ {l : List (Int × List Int)}, y ∈ putP x l ↔ y = x ∨ y ∈ l
  | [] => by simp [putP]
  | a :: l => by
    unfold putP
    split
    · rw [List.mem_cons, putP_mem, List.mem_cons]
      constructor
      · rintro (h | h | h)
        · exact .inr (.inl h)
        · exact .inl h
        · exact .inr (.inr h)
      · rintro (h | h | h)
        · exact .inr (.inl h)
        · exact .inl h
        · exact .inr (.inr h)
    · split
      · rw [List.mem_cons]
      · rename_i h1 h2
        have e := ltP_total h2 h1
        constructor
        · exact .inr
        · rintro (h | h)
          · rw [h, e]; exact List.mem_cons_self
          · exact h
theorem putP_asc {x : Int × List Int} : ∀ {l : List (Int × List Int)}, Asc l → Asc (putP x l)
  | [], _ => by simp [putP, Asc]
  | a :: l, h => by
    obtain ⟨h1, h2⟩ := List.pairwise_cons.1 h
    unfold putP
    split
    · rename_i hlt
      refine List.pairwise_cons.2 ⟨fun y hy => ?_, putP_asc h2⟩
      rcases putP_mem.1 hy with e | hy
      · rw [e]; exact hlt
      · exact h1 y hy
    · split
      · rename_i hlt
        refine List.pairwise_cons.2 ⟨fun y hy => ?_, h⟩
        rcases List.mem_cons.1 hy with e | hy
        · rw [e]; exact hlt
        · exact ltP_trans hlt (h1 y hy)
      · exact h
theorem fold_asc : ∀ (l acc : List (Int × List Int)), Asc acc → Asc (l.foldl (fun acc x => putP x acc) acc) ∧ ∀ y, y ∈ l.foldl (fun acc x => putP x acc) acc ↔ y ∈ l ∨ y ∈ acc
  | [], acc, h => ⟨h, fun y => by simp⟩
  | x :: l, acc, h => by
    obtain ⟨h1, h2⟩ := fold_asc l (putP x acc) (putP_asc h)
    refine ⟨h1, fun y => ?_⟩
    show y ∈ l.foldl _ (putP x acc) ↔ _
    rw [h2, putP_mem, List.mem_cons]
    constructor
    · rintro (h | h | h)
      · exact .inl (.inr h)
      · exact .inl (.inl h)
      · exact .inr h
    · rintro ((h | h) | h)
      · exact .inr (.inl h)
      · exact .inl h
      · exact .inr (.inr h)
theorem uniqP_asc (l : List (Int × List Int)) : Asc (uniqP l) := (fold_asc l [] (by simp [Asc])).1
theorem uniqP_mem {l : List (Int × List Int)} {y : Int × List Int} : y ∈ uniqP l ↔ y ∈ l := by
  unfold uniqP; rw [(fold_asc l [] (by simp [Asc])).2]; simp

theorem cmpIt_lt {a b : NItem} : cmpIt a b < 0 ↔ ltP a.dat b.dat := by unfold cmpIt ltP; rw [cmpN_lt]; rfl
theorem eqIt_iff {a b : NItem} : eqIt a b = true ↔ a.dat = b.dat := by
  unfold eqIt cmpIt
  rw [beq_iff_eq, cmpN_zero]
  constructor
  · rintro ⟨h1, h2⟩; exact Prod.ext h1 h2
  · intro h; exact ⟨congrArg Prod.fst h, congrArg Prod.snd h⟩

theorem compGo_spec : ∀ {l : List NItem} {p : NItem}, (∀ (i j : Nat) a b, i < j → (p :: l)[i]? = some a → (p :: l)[j]? = some b → ¬ cmpIt b a < 0) →
    Asc ((p :: compGo p l).map NItem.dat) ∧ ∀ y, y ∈ (p :: compGo p l).map NItem.dat ↔ y ∈ (p :: l).map NItem.dat
  | [], p, _ => by simp [compGo, Asc]
  | b :: l, p, h => by
    have hs : ∀ (i j : Nat) a c, i < j → (b :: l)[i]? = some a → (b :: l)[j]? = some c → ¬ cmpIt c a < 0 := fun i j a c hij ha hc => h (i + 1) (j + 1) a c (by omega) (by simpa using ha) (by simpa using hc)
    obtain ⟨h1, h2⟩ := compGo_spec hs
    have hpb : ¬ cmpIt b p < 0 := h 0 1 p b (by omega) rfl rfl
    unfold compGo
    split
    · rename_i e
      rw [eqIt_iff] at e
      simp only [List.map_cons] at h1 h2 ⊢
      rw [← e]
      refine ⟨h1, fun y => ?_⟩
      rw [h2 y]
      simp
    · rename_i e
      rw [eqIt_iff] at e
      refine ⟨?_, fun y => ?_⟩
      · rw [List.map_cons]
        refine List.pairwise_cons.2 ⟨fun y hy => ?_, h1⟩
        rw [h2 y] at hy
        obtain ⟨c, hc, rfl⟩ := List.mem_map.1 hy
        obtain ⟨j, hj, hjc⟩ := List.getElem_of_mem hc
        have q : ¬ cmpIt c p < 0 := h 0 (j + 1) p c (by omega) rfl (by simp; rw [List.getElem?_eq_getElem hj, hjc])
        rw [cmpIt_lt] at q
        by_cases hlt : ltP p.dat c.dat
        · exact hlt
        · have e2 := ltP_total q hlt
          exfalso
          have q2 : ¬ cmpIt c b < 0 := by
            cases j with
            | zero => simp at hjc; subst hjc; unfold cmpIt; rw [cmpN_lt, cmpL_self]; omega
            | succ j => exact hs 0 (j + 1) b c (by omega) rfl (by rw [List.getElem?_eq_getElem hj, hjc])
          rw [cmpIt_lt, e2] at q2
          rw [cmpIt_lt] at hpb
          exact e (ltP_total hpb q2)
      · rw [List.map_cons, List.mem_cons, h2 y]
        simp

/-- The list that SortUnique gives. -/
theorem compact_uniq {L : List NItem} {ks : List (Int × List Int)} (hp : (L.map NItem.dat).Perm ks) (hs : SortedL L) : (compact L).map NItem.dat = uniqP ks := by
  have hc : Asc ((compact L).map NItem.dat) ∧ ∀ y, y ∈ (compact L).map NItem.dat ↔ y ∈ L.map NItem.dat := by
    cases L with
    | nil => simp [compact, Asc]
    | cons a l => exact compGo_spec hs
  refine asc_ext hc.1 (uniqP_asc ks) (fun x => ?_)
  rw [hc.2 x, uniqP_mem]
  exact hp.mem_iff
theorem compact_vals {L : List NItem} {ks : List (Int × List Int)} (hp : (L.map NItem.dat).Perm ks) (hs : SortedL L) : (compact L).map NItem.vals = (uniqP ks).map Prod.snd := by
  rw [← compact_uniq hp hs, List.map_map]
  rfl

/-- SortUnique, plainly. -/
def SUV (w' : World) (r : Option (List (Int × List Int))) (e : Ending) : Prop := match r with
  | none => e = .returned (.tuple #[.slice none 0 0, .bool false])
  | some ks => ∃ A, e = .returned (.tuple #[.slice A ((uniqP ks).map Prod.snd).length ((uniqP ks).map Prod.snd).length, .bool true]) ∧ RdM .i64 w' A ((uniqP ks).map Prod.snd)
theorem SUPost.plain {w' : World} {r : Option (List (Int × List Int))} {e : Ending} (h : SUPost w' r e) : SUV w' r e := by
  cases r with
  | none => exact h
  | some ks =>
    obtain ⟨L, hp, hs, A, he, hrd⟩ := h
    refine ⟨A, ?_, ?_⟩
    · rw [← compact_vals hp hs]; simpa using he
    · rw [← compact_vals hp hs]; exact hrd
theorem sortUnique_plain (A B : Option Addr) (c d : Nat) (rows l : List (List Int)) (w : World) (hR : RdM .i64 w A rows) (hl : RdM .i64 w B l) (lr : rows.length ≤ 9223372036854775807) (hc : rows.length ≤ c) (ll : l.length ≤ 65536) :
    Calls Tryz.prog 22 #[.slice A rows.length c, .slice B l.length d] w fun e w' => SUV w' (if isReducedM rows then itemsO rows l else none) e ∧ Ext w w' :=
  (sortUnique_any A B c d rows l w hR hl lr hc ll).mono fun _ _ ⟨h1, h2⟩ => ⟨h1.plain, h2⟩

end Go.Proofs.YtennjcjjegbhgaaGreat

/-
  The walk of quadformref09.Same.
-/
namespace Go.Proofs.YtennjcjjegbhgaaGreat
open Go.RowKit

theorem rdI_drewN {k : IntKind} {w : World} {A : Option Addr} {x : List Int} {n : Nat} (h : RdI k w A x) : RdI k (w.drewN n) A x := h.ext ((Ext.refl _).drewN n)

set_option maxRecDepth 100000 in
set_option maxHeartbeats 1000000 in
theorem same_any (A B : Option Addr) (c d : Nat) (a b : List (List Int)) (w : World) (ha : RdM .i64 w A a) (hb : RdM .i64 w B b) (la : a.length ≤ 9223372036854775807) (lb : b.length ≤ 9223372036854775807) :
    Calls Tryz.prog 24 #[.slice A a.length c, .slice B b.length d] w fun e w' => e = .returned (.bool (decide (a = b))) ∧ Ext w w' := by
  have HA := Lib.hid ha
  have HB := Lib.hid hb
  clear ha hb
  by_cases hl : a.length = b.length
  · have hlb : ((a.length : Int) != (b.length : Int)) = false := by simp [hl]
    have HL := Lib.hid hl
    have hle : a.length ≤ b.length := by omega
    clear hl
    go_enter Tryz.func24, Tryz.ntmps24
    go_wp2_with fail
    clear hlb
    go_loopw [13, 5] (fun i _ wr => ∃ k : Nat, k ≤ a.length ∧ i = .int .i64 k ∧ Hid (Ext w wr) ∧ Hid (∀ j, j < k → a[j]? = b[j]?)) (fun i _ _ => a.length - (intOf i).toNat)
    case atStart => exact ⟨0, Nat.zero_le _, rfl, Lib.hid (Ext.refl _), Lib.hid (fun j h => by omega)⟩
    case round =>
      obtain ⟨k, hk, rfl, HE, HQ⟩ := hrel
      by_cases hlt : k < a.length
      · obtain ⟨x, hx⟩ := getElem?_of_lt hlt
        obtain ⟨y, hy⟩ := getElem?_of_lt (l := b) (k := k) (by omega)
        obtain ⟨b1, o1, B1, c1, rfl, hc1, hcl1, hlx, hr1⟩ := (HA.out.ext HE.out.drew).at_ hx
        obtain ⟨b2, o2, B2, c2, rfl, hc2, hcl2, hly, hr2⟩ := (HB.out.ext HE.out.drew).at_ hy
        have HX := Lib.hid hx
        have HY := Lib.hid hy
        have HR1 := Lib.hid hr1
        have HR2 := Lib.hid hr2
        have HE1 := Lib.hid HE.out.drew
        have hkb : (k : Int) < (b.length : Int) := by omega
        clear hx hy hr1 hr2 HE
        go_wp2_with fail
        refine region_still_tail 8 (by kernel_rfl) (by kernel_rfl) ?_
        simp only [List.take_succ_cons, List.take_zero, List.drop_succ_cons, List.drop_zero]
        generalize wr.drew = w3 at *
        iterate 8 still_step
        refine wpStill_nil ?_
        have HC := Lib.hid (refCompare_any B1 B2 c1 c2 x y w3 HR1.out HR2.out hlx hly)
        clear hc1 hc2
        by_cases h0 : cmpL x y = 0
        · have h0' : (cmpL x y != 0) = false := by simp [h0]
          have H0 := Lib.hid h0
          clear h0
          go_wp2_with fail
          refine HC.out.mono ?_
          rintro e w4 ⟨rfl, n, rfl⟩
          go_wp2_with fail
          go_roundw
          case rel =>
            refine ⟨k + 1, by omega, by go_num, Lib.hid (HE1.out.drewN n), Lib.hid (fun j hj => ?_)⟩
            by_cases e : j = k
            · subst e; rw [HX.out, HY.out, cmpL_eq H0.out]
            · exact HQ.out j (by omega)
          case measure => simp [intOf]; omega
        · have h0' : (cmpL x y != 0) = true := by simp [h0]
          go_wp2_with fail
          refine HC.out.mono ?_
          rintro e w4 ⟨rfl, n, rfl⟩
          go_wp2_with fail
          go_ret
          refine ⟨ret_undec (fun h => ?_), HE1.out.drewN n⟩
          subst h
          have h1 := HX.out
          rw [HY.out] at h1
          cases h1
          exact h0 (cmpL_self _)
      · go_wp2_with fail
        go_ret
        refine ⟨ret_dec ?_, HE.out⟩
        apply List.ext_getElem?
        intro j
        rcases Nat.lt_or_ge j a.length with h | h
        · exact HQ.out j (by omega)
        · rw [List.getElem?_eq_none h, List.getElem?_eq_none (by have := HL.out; omega)]
  · have hlb : ((a.length : Int) != (b.length : Int)) = true := by simp; omega
    go_enter Tryz.func24, Tryz.ntmps24
    go_wp2_with fail
    go_ret
    exact ⟨ret_undec (fun h => hl (by rw [h])), Ext.refl _⟩

end Go.Proofs.YtennjcjjegbhgaaGreat

/-
  The walk of quadformlaw09.awake: the sanity check answers true.
-/
namespace Go.Proofs.YtennjcjjegbhgaaGreat
open Go.RowKit

/-- A slice of two numbers in a block of its own. -/
theorem rdI_two {w : World} {b : Nat} {x y : Int} (h0 : w.cell? ⟨b, 0, none⟩ = some (.int .i64 x)) (h1 : w.cell? ⟨b, 1, none⟩ = some (.int .i64 y)) : RdI .i64 w (some ⟨b, 0, none⟩) [x, y] := fun _ => ⟨b, 0, rfl, fun i u hu => by
  match i, hu with
  | 0, hu => simp at hu; subst hu; exact h0
  | 1, hu => simp at hu; subst hu; exact h1⟩
theorem rdI_three {w : World} {b : Nat} {x y z : Int} (h0 : w.cell? ⟨b, 0, none⟩ = some (.int .i64 x)) (h1 : w.cell? ⟨b, 1, none⟩ = some (.int .i64 y)) (h2 : w.cell? ⟨b, 2, none⟩ = some (.int .i64 z)) : RdI .i64 w (some ⟨b, 0, none⟩) [x, y, z] := fun _ => ⟨b, 0, rfl, fun i u hu => by
  match i, hu with
  | 0, hu => simp at hu; subst hu; exact h0
  | 1, hu => simp at hu; subst hu; exact h1
  | 2, hu => simp at hu; subst hu; exact h2⟩
theorem slI_two {w : World} {b : Nat} {x y : Int} (h0 : w.cell? ⟨b, 0, none⟩ = some (.int .i64 x)) (h1 : w.cell? ⟨b, 1, none⟩ = some (.int .i64 y)) : SlI .i64 w (.slice (some ⟨b, 0, none⟩) 2 2) [x, y] :=
  ⟨some ⟨b, 0, none⟩, 2, rfl, by simp, by simp, rdI_two h0 h1⟩

def hexH : List (List Int) := [[2, 1], [1, 2]]
theorem hex_items : (if isReducedM hexH then itemsO hexH [[-1, 1], [0, 2], [1, -1], [1, 0]] else none) = some [(2, [1, -1]), (8, [0, 2]), (2, [1, -1]), (2, [1, 0])] := by decide +kernel
theorem hex_uniq : (uniqP [(2, [1, -1]), (8, [0, 2]), (2, [1, -1]), (2, [1, 0])]).map Prod.snd = [[1, -1], [1, 0], [0, 2]] := by decide +kernel
theorem hex_norm : innerV hexH [1, -1] [1, -1] = .tuple #[.int .i64 2, .bool true] := by
  unfold innerV
  rw [if_pos (by decide +kernel)]
  rw [show accZ [1, -1] (applyM hexH [1, -1]) [1, -1].length = 2 from by decide +kernel]
  rfl
theorem hex_canon : canonS [0, -3, 1] = some [0, 3, -1] := by decide +kernel

theorem su_hex (w W : World) (A B : Option Addr) (hE : Ext w W) (h1 : RdM .i64 W A hexH) (h2 : RdM .i64 W B [[-1, 1], [0, 2], [1, -1], [1, 0]]) :
    Calls Tryz.prog 22 #[.slice A 2 2, .slice B 4 4] W fun e w' => ∃ C, e = .returned (.tuple #[.slice C 3 3, .bool true]) ∧ RdM .i64 w' C [[1, -1], [1, 0], [0, 2]] ∧ RdM .i64 w' A hexH ∧ Ext w w' := by
  refine (sortUnique_plain A B 2 4 hexH _ W h1 h2 (by decide) (by decide) (by decide)).mono fun e w' ⟨hs, he⟩ => ?_
  rw [hex_items] at hs
  obtain ⟨C, hr, hrd⟩ := hs
  rw [hex_uniq] at hr hrd
  exact ⟨C, hr, hrd, h1.ext he, hE.trans he⟩
theorem norm_hex (w W : World) (A B C : Option Addr) (hE : Ext w W) (h1 : RdM .i64 W A hexH) (h2 : RdI .i64 W B [1, -1]) (h3 : RdM .i64 W C [[1, -1], [1, 0], [0, 2]]) :
    Calls Tryz.prog 18 #[.slice A 2 2, .slice B 2 2] W fun e w' => e = .returned (.tuple #[.int .i64 2, .bool true]) ∧ RdM .i64 w' C [[1, -1], [1, 0], [0, 2]] ∧ Ext w w' := by
  refine (norm_any A B 2 2 hexH [1, -1] W h1 h2 (by decide) (by decide) (by decide)).mono fun e w' ⟨hs, he⟩ => ?_
  rw [hex_norm] at hs
  exact ⟨hs, h3.ext he, hE.trans he⟩
theorem canon_hex (w W : World) (B C : Option Addr) (hE : Ext w W) (h2 : RdI .i64 W B [0, -3, 1]) (h3 : RdM .i64 W C [[1, -1], [1, 0], [0, 2]]) :
    Calls Tryz.prog 46 #[.slice B 3 3] W fun e w' => ∃ D c, e = .returned (.tuple #[.slice D 3 c, .bool true]) ∧ RdI .i64 w' D [0, 3, -1] ∧ RdM .i64 w' C [[1, -1], [1, 0], [0, 2]] ∧ Ext w w' := by
  refine (canonicalSign_any B 3 [0, -3, 1] W h2 (by decide)).mono fun e w' ⟨hs, he⟩ => ?_
  rw [hex_canon] at hs
  obtain ⟨D, c, hr, _, hrd, _⟩ := hs
  exact ⟨D, c, hr, hrd, h3.ext he, hE.trans he⟩
theorem same_hex (w W : World) (A C D : Option Addr) (hE : Ext w W) (h1 : RdM .i64 W A [[1, -1], [1, 0], [0, 2]]) (h2 : RdM .i64 W C [[1, -1], [1, 0], [0, 2]]) (h3 : RdI .i64 W D [0, 3, -1]) :
    Calls Tryz.prog 24 #[.slice A 3 3, .slice C 3 3] W fun e w' => e = .returned (.bool true) ∧ RdI .i64 w' D [0, 3, -1] ∧ Ext w w' :=
  (same_any A C 3 3 _ _ W h1 h2 (by decide) (by decide)).mono fun e w' ⟨hs, he⟩ => ⟨by rw [hs]; simp, h3.ext he, hE.trans he⟩
theorem compare_hex (w W : World) (D E : Option Addr) (c : Nat) (hE : Ext w W) (h1 : RdI .i64 W D [0, 3, -1]) (h2 : RdI .i64 W E [0, 3, -1]) :
    Calls Tryz.prog 26 #[.slice D 3 c, .slice E 3 3] W fun e w' => e = .returned (.int .i64 0) ∧ Ext w w' :=
  (refCompare_any D E c 3 _ _ W h1 h2 (by decide) (by decide)).mono fun e w' ⟨hs, n, hw⟩ => ⟨by rw [hs, cmpL_self], by rw [hw]; exact hE.drewN n⟩

set_option maxRecDepth 100000 in
set_option maxHeartbeats 2000000 in
theorem awake_any (w : World) : Calls Tryz.prog 17 #[] w fun e w' => e = .returned (.bool true) ∧ Ext w w' := by
  go_enter Tryz.func17, Tryz.ntmps17
  go_wp2_with fail
  refine (su_hex w _ _ _ ?_ ?_ ?_).mono ?_
  · repeat (first | exact Ext.refl _ | refine Ext.alloc ?_ _)
  · exact fun _ => ⟨_, 0, rfl, fun i r hr => by
      match i, hr with
      | 0, hr => simp [hexH] at hr; subst hr; exact ⟨.slice (some ⟨w.heap.size, 0, none⟩) 2 2, by go_simp, slI_two (by go_simp) (by go_simp)⟩
      | 1, hr => simp [hexH] at hr; subst hr; exact ⟨.slice (some ⟨w.heap.size + 1, 0, none⟩) 2 2, by go_simp, slI_two (by go_simp) (by go_simp)⟩⟩
  · exact fun _ => ⟨_, 0, rfl, fun i r hr => by
      match i, hr with
      | 0, hr => simp at hr; subst hr; exact ⟨.slice (some ⟨w.heap.size + 1 + 1 + 1, 0, none⟩) 2 2, by go_simp, slI_two (by go_simp) (by go_simp)⟩
      | 1, hr => simp at hr; subst hr; exact ⟨.slice (some ⟨w.heap.size + 1 + 1 + 1 + 1, 0, none⟩) 2 2, by go_simp, slI_two (by go_simp) (by go_simp)⟩
      | 2, hr => simp at hr; subst hr; exact ⟨.slice (some ⟨w.heap.size + 1 + 1 + 1 + 1 + 1, 0, none⟩) 2 2, by go_simp, slI_two (by go_simp) (by go_simp)⟩
      | 3, hr => simp at hr; subst hr; exact ⟨.slice (some ⟨w.heap.size + 1 + 1 + 1 + 1 + 1 + 1, 0, none⟩) 2 2, by go_simp, slI_two (by go_simp) (by go_simp)⟩⟩
  rintro e w1 ⟨C, rfl, hC, hH, he⟩
  have HC := Lib.hid hC
  have HH := Lib.hid hH
  have HE := Lib.hid he
  clear hC hH he
  go_wp2_with fail
  refine (norm_hex w _ _ _ C ?_ ?_ ?_ ?_).mono ?_
  · exact HE.out.alloc _
  · exact HH.out.ext ((Ext.refl _).alloc _)
  · exact rdI_two (by go_simp) (by go_simp)
  · exact HC.out.ext ((Ext.refl _).alloc _)
  rintro e w2 ⟨rfl, hC, he⟩
  have HC2 := Lib.hid hC
  have HE2 := Lib.hid he
  clear hC he HC HH HE
  go_wp2_with fail
  refine (canon_hex w _ _ C ?_ ?_ ?_).mono ?_
  · exact HE2.out.alloc _
  · exact rdI_three (by go_simp) (by go_simp) (by go_simp)
  · exact HC2.out.ext ((Ext.refl _).alloc _)
  rintro e w3 ⟨D, c, rfl, hD, hC, he⟩
  have HD := Lib.hid hD
  have HC3 := Lib.hid hC
  have HE3 := Lib.hid he
  clear hC he hD HC2 HE2
  go_wp2_with fail
  refine (same_hex w _ _ _ D ?_ ?_ ?_ ?_).mono ?_
  · repeat (first | exact HE3.out | refine Ext.alloc ?_ _)
  · exact HC3.out.ext (by repeat (first | exact Ext.refl _ | refine Ext.alloc ?_ _))
  · exact fun _ => ⟨_, 0, rfl, fun i r hr => by
      match i, hr with
      | 0, hr => simp at hr; subst hr; exact ⟨.slice (some ⟨w3.heap.size, 0, none⟩) 2 2, by go_simp, slI_two (by go_simp) (by go_simp)⟩
      | 1, hr => simp at hr; subst hr; exact ⟨.slice (some ⟨w3.heap.size + 1, 0, none⟩) 2 2, by go_simp, slI_two (by go_simp) (by go_simp)⟩
      | 2, hr => simp at hr; subst hr; exact ⟨.slice (some ⟨w3.heap.size + 1 + 1, 0, none⟩) 2 2, by go_simp, slI_two (by go_simp) (by go_simp)⟩⟩
  · exact HD.out.ext (by repeat (first | exact Ext.refl _ | refine Ext.alloc ?_ _))
  rintro e w4 ⟨rfl, hD, he⟩
  have HD4 := Lib.hid hD
  have HE4 := Lib.hid he
  clear he hD HC3 HE3 HD
  go_wp2_with fail
  refine (compare_hex w _ D _ c ?_ ?_ ?_).mono ?_
  · exact HE4.out.alloc _
  · exact HD4.out.ext ((Ext.refl _).alloc _)
  · exact rdI_three (by go_simp) (by go_simp) (by go_simp)
  rintro e w5 ⟨rfl, he⟩
  have HE5 := Lib.hid he
  clear he HE4 HD4
  go_wp2_with fail
  go_ret
  exact ⟨rfl, HE5.out⟩

end Go.Proofs.YtennjcjjegbhgaaGreat

/-
  The laws' own check 'awake', and what a law's contract says of a call.
-/
namespace Go.Proofs.YtennjcjjegbhgaaGreat
open Go.RowKit

theorem awake_C : CallC Tryz.prog 17 [] ⟨[], .raw (.bool true)⟩ := by
  refine callC_ext (by kernel_rfl) fun X w vs hX hvs ha => ?_
  obtain rfl : vs = #[] := by
    apply Array.ext_getElem?
    intro j
    rw [Array.getElem?_eq_none (by simp at hvs; simp [hvs])]; rfl
  exact (awake_any w).mono fun e w' ⟨h1, h2⟩ => ⟨_, h1, fun _ _ _ => rel_bool _, h2⟩
theorem CallC.law {P : Program} {f : FuncId} {args : List TV} {b : Bool} (h : CallC P f args ⟨[], .raw (.bool b)⟩) {w : World} {vs : Array Value} (hvs : vs.size = args.length)
    (ha : ∀ (j : Nat) t, args[j]? = some t → ∃ v : Value, vs[j]? = some v ∧ t.rel (fun _ _ => none) (fun _ => []) (fun _ => False) w v) : Calls P f vs w fun e w' => e = .returned (.bool b) ∧ Ext w w' :=
  (h.calls hvs ha).mono fun e w' ⟨v, h1, ⟨ρ, H, X, h2⟩, h3⟩ => ⟨by rw [h1, rep_raw h2], h3⟩
theorem args3 {w : World} {x0 x1 x2 : PV} {v0 v1 v2 : Value} (h0 : Rep (fun _ => False) w x0 v0) (h1 : Rep (fun _ => False) w x1 v1) (h2 : Rep (fun _ => False) w x2 v2) :
    ∀ (j : Nat) t, [TV.one (.p x0), .one (.p x1), .one (.p x2)][j]? = some t → ∃ v : Value, #[v0, v1, v2][j]? = some v ∧ t.rel (fun _ _ => none) (fun _ => []) (fun _ => False) w v := fun j t hj => by
  match j, hj with
  | 0, hj => simp at hj; subst hj; exact ⟨_, rfl, h0⟩
  | 1, hj => simp at hj; subst hj; exact ⟨_, rfl, h1⟩
  | 2, hj => simp at hj; subst hj; exact ⟨_, rfl, h2⟩
  | j + 3, hj => simp at hj
end Go.Proofs.YtennjcjjegbhgaaGreat

/-
  Arguments opened: a slice of integers that came in, as a list.
-/
namespace Go.Proofs.YtennjcjjegbhgaaGreat
open Go.ChangeShapes Go.WideShapes Go.ChangeAt Go.RowKit

theorem Tryz.ownKnob_ : ownKnob Tryz.prog.godebug = none := by kernel_rfl
theorem Tryz.laidOut_ : laidOutB Tryz.prog = true := by kernel_rfl

theorem open_rdI {H : Type} {enc : TypeId × Value → H} {P : Program} {W : World} {base : Nat} {held : Bool} {t e : TypeId} {k : IntKind} {a : Option Addr} {len cap : Nat} {d : DataW H} {p : List MemPlace}
    (ht : P.underlying t = some (.slice e)) (he : P.underlying e = some (.int k)) (hc : P.cellsOf e = 1) (h : DataW.Trod enc P W base (fun _ => true) held t (.slice a len cap) d p) :
    ∃ zs : List Int, len = zs.length ∧ len ≤ cap ∧ cap ≤ maxLen ∧ RdI k W a zs ∧ (∀ n ∈ zs, (Lit.int k n).wf = true) ∧ ((d = .nil ∧ len = 0) ∨ ∃ spare, d = .slice (lits k zs) spare ∧ spare.length = cap - len) := by
  obtain ⟨fuel, hf⟩ := h
  rcases open_ints ht he hc hf with ⟨hcs, hx⟩ | ⟨x, l, c, zs, hcs, _, hl, hm, hz, hx, hcell, hwz⟩
  · simp [Value.cells] at hcs
    obtain ⟨rfl, rfl, rfl⟩ := hcs
    exact ⟨[], rfl, Nat.le_refl _, Nat.zero_le _, RdI.nil _ _ _, by simp, .inl ⟨(Prod.mk.inj hx).1, rfl⟩⟩
  · simp [Value.cells] at hcs
    obtain ⟨rfl, rfl, rfl⟩ := hcs
    simp at hz
    refine ⟨zs.take len, by simp; omega, hl, hm, fun hne => ?_, fun n hn => hwz n (List.mem_of_mem_take hn), .inr ⟨_, (Prod.mk.inj hx).1, by simp [lits]; omega⟩⟩
    have hlen : 0 < zs.length := by
      rcases Nat.eq_zero_or_pos zs.length with h0 | h0
      · have := List.eq_nil_of_length_eq_zero h0; subst this; simp at hne
      · exact h0
    obtain ⟨b, off, rfl, hc2⟩ := ints_at hcell hlen
    refine ⟨b, off, rfl, fun i v hv => ?_⟩
    rw [List.getElem?_map, List.getElem?_take] at hv
    split at hv
    · rename_i hi
      cases hzi : zs[i]? with
      | none => rw [hzi] at hv; cases hv
      | some z =>
        rw [hzi] at hv
        have hil := (List.getElem?_eq_some_iff.1 hzi).1
        have := hc2 i hil
        rw [this, List.getD_eq_getElem?_getD, hzi]
        simpa using hv
    · cases hv

theorem wf_i64_bd {n : Int} (h : (Lit.int .i64 n).wf = true) : -9223372036854775808 ≤ n ∧ n ≤ 9223372036854775807 := by
  have := Go.bounds_i64 h
  omega
theorem wf_i8_bd {n : Int} (h : (Lit.int .i8 n).wf = true) : -128 ≤ n ∧ n ≤ 127 := by
  simp [Lit.wf, IntKind.min, IntKind.max, IntKind.signed, IntKind.bits] at h
  omega
theorem wf_i16_bd {n : Int} (h : (Lit.int .i16 n).wf = true) : -32768 ≤ n ∧ n ≤ 32767 := by
  simp [Lit.wf, IntKind.min, IntKind.max, IntKind.signed, IntKind.bits] at h
  omega
theorem wf_u8_bd {n : Int} (h : (Lit.int .u8 n).wf = true) : 0 ≤ n ∧ n ≤ 255 := by
  have := Go.bounds_u8 h
  omega

end Go.Proofs.YtennjcjjegbhgaaGreat

/-
  Arguments opened: a slice of slices of integers that came in, as a list of lists.
-/
namespace Go.Proofs.YtennjcjjegbhgaaGreat
open Go.ChangeShapes Go.WideShapes Go.ChangeAt Go.RowKit

theorem cells_uno {w : World} {base : Nat} {a : Addr} {c1 : List Value} (h : w.cells? base a 1 = some c1) : ∃ c, c1 = [c] ∧ w.cell? a = some c := by
  have e0 : a.add 0 = a := by simp [Addr.add]
  unfold World.cells? at h
  split at h
  · simp only [List.range_succ, List.range_zero, List.nil_append, List.mapM_cons, List.mapM_nil, e0] at h
    cases hcc : w.cell? a with
    | none => simp [hcc] at h
    | some c => simp [hcc] at h; exact ⟨c, h.symm, rfl⟩
  · cases h

theorem open_rdM {H : Type} {enc : TypeId × Value → H} {P : Program} {W : World} {base : Nat} {held : Bool} {t e e' : TypeId} {k : IntKind} {a : Option Addr} {len cap : Nat} {d : DataW H} {p : List MemPlace}
    (ht : P.underlying t = some (.slice e)) (he : P.underlying e = some (.slice e')) (he' : P.underlying e' = some (.int k)) (hc : P.cellsOf e = 1) (hc' : P.cellsOf e' = 1) (h : DataW.Trod enc P W base (fun _ => true) held t (.slice a len cap) d p) :
    ∃ M : List (List Int), len = M.length ∧ len ≤ cap ∧ cap ≤ maxLen ∧ RdM k W a M ∧ ∀ r ∈ M, ∀ n ∈ r, (Lit.int k n).wf = true := by
  obtain ⟨fuel, hf⟩ := h
  rcases DataW.trod_slice ht hf with ⟨hcs, hx⟩ | ⟨x, l, c, elems, rest, n, _, hcs, hx, hb, hl, hm, hlen, hel, hsp, hns⟩
  · simp [Value.cells] at hcs
    obtain ⟨rfl, rfl, rfl⟩ := hcs
    exact ⟨[], rfl, Nat.le_refl _, Nat.zero_le _, RdM.nil _ _ _, by simp⟩
  · simp [Value.cells] at hcs
    obtain ⟨rfl, rfl, rfl⟩ := hcs
    have hex : ∀ i, i < len → ∃ r : List Int, (∃ v, W.cell? (x.add i) = some v ∧ SlI k W v r) ∧ ∀ n ∈ r, (Lit.int k n).wf = true := fun i hi => by
      have hE := hel i hi
      rw [hc, Nat.mul_one] at hE
      obtain ⟨y, hy⟩ : ∃ y, elems[i]? = some y := ⟨_, List.getElem?_eq_getElem (by omega)⟩
      rw [hy, Option.bind_eq_some_iff] at hE
      obtain ⟨c1, h1, h2⟩ := hE
      obtain ⟨v, rfl, hv⟩ := cells_uno h1
      rcases DataW.trod_slice he h2 with ⟨hcs2, _⟩ | ⟨x2, l2, c2, _, _, _, _, hcs2, _⟩
      · simp at hcs2
        subst hcs2
        exact ⟨[], ⟨_, hv, none, 0, rfl, by simp, by simp, RdI.nil _ _ _⟩, by simp⟩
      · simp at hcs2
        subst hcs2
        obtain ⟨zs, g1, g2, g3, g4, g5, _⟩ := open_rdI (enc := enc) (base := base) (held := held) (d := y.1) (p := y.2) he he' hc' ⟨n, by simpa [Value.cells] using h2⟩
        refine ⟨zs, ⟨_, hv, some x2, c2, by rw [g1], by omega, ?_, g4⟩, g5⟩
        unfold maxLen at g3
        omega
    let F : Nat → List Int := fun i => if h : i < len then Classical.choose (hex i h) else []
    have hF : ∀ i, i < len → (∃ v, W.cell? (x.add i) = some v ∧ SlI k W v (F i)) ∧ ∀ n ∈ F i, (Lit.int k n).wf = true := fun i hi => by
      have := Classical.choose_spec (hex i hi)
      simp only [F, hi, dif_pos]
      exact this
    refine ⟨(List.range len).map F, by simp, hl, hm, fun hne => ?_, fun r hr => ?_⟩
    · have h0 : 0 < len := by
        rcases Nat.eq_zero_or_pos len with h | h
        · subst h; simp at hne
        · exact h
      obtain ⟨b, off, spot⟩ := x
      obtain ⟨⟨v, hv, _⟩, _⟩ := hF 0 h0
      have hspot : spot = none := by simpa [Addr.add] using World.cell?_spot hv
      subst hspot
      refine ⟨b, off, rfl, fun i r hi => ?_⟩
      rw [List.getElem?_map] at hi
      obtain ⟨j, hj, rfl⟩ := Option.map_eq_some_iff.1 hi
      have hil : i < len := by
        have := (List.getElem?_eq_some_iff.1 hj).1
        simpa using this
      rw [List.getElem?_range hil] at hj
      injection hj with hj
      subst hj
      obtain ⟨⟨v, hv, hs⟩, _⟩ := hF i hil
      exact ⟨v, by rw [← Go.WideShapes.add_plain]; exact hv, hs⟩
    · obtain ⟨i, hi, rfl⟩ := List.mem_map.1 hr
      exact (hF i (List.mem_range.1 hi)).2
end Go.Proofs.YtennjcjjegbhgaaGreat
