/-
  The walks of the closure of (*sorter).sort and of slices.CompactFunc at keyed values.
-/
import Derived.Test.YtennjcjjegbhgaaWalkI
import Derived.Lib.SliceRun
namespace Go.Proofs.Ytennjcjjegbhgaa
open Go.RowKit

theorem ext_grow (w : World) (q : Nat) (os : Array Obj) : Ext w (Sort.grow (w.drewN q) os) :=
  ⟨rfl, rfl, rfl, by show w.heap.size ≤ (w.heap ++ os).size; simp, fun k hk => by show (w.heap ++ os)[k]? = w.heap[k]?; rw [Array.getElem?_append_left hk]⟩

/-- A norm and a vector, with where the vector lies. -/
structure Item where
  key : Int
  vals : List Int
  at_ : Option Addr
  cap : Nat
  deriving Inhabited

def Item.val (it : Item) : Value := .slice it.at_ it.vals.length it.cap
def Item.agg (it : Item) : Value := .agg #[.int .i64 it.key, .slice it.at_ it.vals.length it.cap]
def cmpIt (a b : Item) : Int := cmpN a.key a.vals b.key b.vals
def eqIt (a b : Item) : Bool := cmpIt a b == 0

/-- The vector of an item lies in w, outside block g. -/
structure ItemOk (w : World) (g : Nat) (it : Item) : Prop where
  rd : RdI .i64 w it.at_ it.vals
  ne : ∀ p, it.at_ = some p → p.block ≠ g
  le : it.vals.length ≤ 9223372036854775807
theorem ItemOk.ext {w w' : World} {g : Nat} {it : Item} (h : ItemOk w g it) (e : Ext w w') : ItemOk w' g it := ⟨h.rd.ext e, h.ne, h.le⟩
theorem RdI.setOther {k : IntKind} {w : World} {A : Option Addr} {zs : List Int} {g : Nat} (h : RdI k w A zs) (hne : ∀ p, A = some p → p.block ≠ g) (p : Addr) (hp : p.block = g) (v : Value) : RdI k (w.setCell p v) A zs := fun hn => by
  obtain ⟨b, off, rfl, hc⟩ := h hn
  refine ⟨b, off, rfl, fun i x hx => ?_⟩
  rw [World.cell?_setCell_other _ _ _ _ (fun e => by have := hne _ rfl; have e2 := congrArg Addr.block e; simp at e2 this; omega)]
  exact hc i x hx
theorem ItemOk.setCell {w : World} {g : Nat} {it : Item} (h : ItemOk w g it) (p : Addr) (hp : p.block = g) (v : Value) : ItemOk (w.setCell p v) g it := ⟨h.rd.setOther h.ne p hp v, h.ne, h.le⟩

theorem compareIt_any (a b : Item) (w : World) (g : Nat) (ha : ItemOk w g a) (hb : ItemOk w g b) :
    Calls Try.prog 26 #[a.agg, b.agg] w fun e w' => e = .returned (.int .i64 (cmpIt a b)) ∧ Ext w w' :=
  (compareByNorm_any a.key b.key a.at_ b.at_ a.cap b.cap a.vals b.vals w ha.rd hb.rd ha.le hb.le).mono fun _ _ ⟨he, q, os, hw⟩ => ⟨he, by rw [hw]; exact ext_grow w q os⟩

set_option maxRecDepth 100000 in
set_option maxHeartbeats 1000000 in
/-- The closure: it reads the order out of the sorter (at sx) through the box (at bx). -/
theorem sortEq_any (a b : Item) (bx sx so : Nat) (w : World) (g : Nat) (ha : ItemOk w g a) (hb : ItemOk w g b) (h1 : w.cell? ⟨bx, 0, none⟩ = some (.pointer (some ⟨sx, so, none⟩))) (h2 : w.cell? ⟨sx, so + 1, none⟩ = some (.func (Fn.func 26) #[] #[])) :
    Calls Try.prog 40 #[a.agg, b.agg, .pointer (some ⟨bx, 0, none⟩)] w fun e w' => e = .returned (.bool (eqIt a b)) ∧ Ext w w' := by
  have HA := Lib.hid ha
  have HB := Lib.hid hb
  clear ha hb
  unfold Item.agg
  go_enter Try.func40, Try.ntmps40
  go_wp2_with fail
  obtain ⟨c1, c2, c3, c4, he, hg⟩ := two_boxes w (.int .i64 a.key) (.slice a.at_ a.vals.length a.cap) (.int .i64 b.key) (.slice b.at_ b.vals.length b.cap) 59
  have h1' := he.cell h1
  have h2' := he.cell h2
  have HE := Lib.hid he
  clear he hg h1 h2
  generalize (w.alloc (.cells #[.int .i64 a.key, .slice a.at_ a.vals.length a.cap] 59)).alloc (.cells #[.int .i64 b.key, .slice b.at_ b.vals.length b.cap] 59) = w2 at *
  refine region_still_tail 6 (by kernel_rfl) (by kernel_rfl) ?_
  simp only [List.take_succ_cons, List.take_zero, List.drop_succ_cons, List.drop_zero]
  generalize w2.drew = w3 at *
  iterate 6 still_step
  refine wpStill_nil ?_
  have HC := Lib.hid (compareIt_any a b w3 g (HA.out.ext HE.out) (HB.out.ext HE.out))
  unfold Item.agg at HC
  go_wp2_with fail
  refine HC.out.mono ?_
  rintro e w' ⟨rfl, he⟩
  have HE2 := Lib.hid (HE.out.trans he)
  clear he
  go_wp2_with fail
  go_ret
  exact ⟨rfl, HE2.out⟩

end Go.Proofs.Ytennjcjjegbhgaa
