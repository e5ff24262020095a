/-
  A matrix that the call makes, row by row: 'make([][]T, n)', then for each row 'm[i] = make([]T, k)' and one store a cell. T has one cell.
-/
import Derived.Test.YtennjcjjegbhgaaMem
import Derived.Deep.OwnRows
import Derived.Deep.LoopGhost
import Derived.Deep.Light
import Derived.Deep.Cut
import Derived.Deep.CutRange
import Derived.CellFam
import Derived.BigGuard
import Derived.BigRegion
namespace Go.Proofs.Ytennjcjjegbhgaa
open Go.RowKit

theorem rowIs_ext {w w' : World} {b : Nat} {t : TypeId} {n : Nat} {f : Nat → Value} (h : w.rowIs b t n f) (e : Ext w w') : w'.rowIs b t n f := h.of_block (e.block b h.lt)
theorem rowIs_drewN {w : World} {b : Nat} {t : TypeId} {n : Nat} {f : Nat → Value} (h : w.rowIs b t n f) (k : Nat) : (w.drewN k).rowIs b t n f := h
/-- A row of integers that the call owns reads as a list. -/
theorem RdI.of_row {k : IntKind} {w : World} {b : Nat} {t : TypeId} {n : Nat} {f : Nat → Value} {zs : List Int} (h : w.rowIs b t n f) (hl : zs.length ≤ n) (hf : ∀ i z, zs[i]? = some z → f i = .int k z) :
    RdI k w (some ⟨b, 0, none⟩) zs := fun _ => ⟨b, 0, rfl, fun i x hx => by
  rw [List.getElem?_map] at hx
  cases hz : zs[i]? with
  | none => rw [hz] at hx; cases hx
  | some z =>
    rw [hz] at hx
    have hi : i < zs.length := by
      rcases Nat.lt_or_ge i zs.length with hl | hg
      · exact hl
      · rw [List.getElem?_eq_none hg] at hz; cases hz
    rw [Nat.zero_add, h.cell (by omega), hf i z hz]
    simpa using hx⟩

/-- r rows of n are made; w: the world ahead of the making. -/
structure MxO (w wr : World) (tr te : TypeId) (n m r : Nat) (g : Nat → Nat) (Z : Nat → Nat → Value) : Prop where
  ext : Ext w wr
  top : wr.rowIs w.heap.size tr n (fun j => if j < r then .slice (some ⟨g j, 0, none⟩) m m else .slice none 0 0)
  gt : ∀ j, j < r → w.heap.size < g j
  done : ∀ j, j < r → wr.rowIs (g j) te m (Z j)

/-- Row r is made, c of its cells are filled. -/
structure MxI (w wi : World) (tr te : TypeId) (n m r c : Nat) (g : Nat → Nat) (Z : Nat → Nat → Value) (z : Value) : Prop where
  ext : Ext w wi
  top : wi.rowIs w.heap.size tr n (fun j => if j < r + 1 then .slice (some ⟨g j, 0, none⟩) m m else .slice none 0 0)
  gt : ∀ j, j < r + 1 → w.heap.size < g j
  ne : ∀ j, j < r → g j ≠ g r
  done : ∀ j, j < r → wi.rowIs (g j) te m (Z j)
  cur : wi.rowIs (g r) te m (fun i => if i < c then Z r i else z)

theorem mxO_start (w : World) (tr te : TypeId) (n m : Nat) (g : Nat → Nat) (Z : Nat → Nat → Value) : MxO w (w.alloc (.cells (madeCells #[.slice none 0 0] n) tr)) tr te n m 0 g Z :=
  ⟨(Ext.refl _).alloc _, (World.rowIs_made w _ n tr).congr (fun j _ => by simp), fun j hj => absurd hj (Nat.not_lt_zero _), fun j hj => absurd hj (Nat.not_lt_zero _)⟩

theorem MxO.lt {w wr : World} {tr te : TypeId} {n m r : Nat} {g : Nat → Nat} {Z : Nat → Nat → Value} (h : MxO w wr tr te n m r g Z) : w.heap.size < wr.heap.size := h.top.lt

theorem mxI_start {w wr : World} {tr te : TypeId} {n m r : Nat} {g : Nat → Nat} {Z : Nat → Nat → Value} (z : Value) (h : MxO w wr tr te n m r g Z) :
    MxI w ((wr.alloc (.cells (madeCells #[z] m) te)).setCell ⟨w.heap.size, r, none⟩ (.slice (some ⟨wr.heap.size, 0, none⟩) m m)) tr te n m r 0 (fun j => if j = r then wr.heap.size else g j) Z z := by
  have hlt := h.lt
  have hnew := World.rowIs_made wr z m te
  refine ⟨(h.ext.alloc _).setCell (Nat.le_refl _) _, ((h.top.alloc _).set r _).congr (fun j _ => ?_), fun j hj => ?_, fun j hj => ?_, fun j hj => ?_, ?_⟩
  · by_cases e : j = r
    · subst e; simp
    · by_cases hl : j < r
      · rw [if_neg e, if_pos hl, if_pos (by omega)]; simp [e]
      · rw [if_neg e, if_neg hl, if_neg (by omega)]
  · show w.heap.size < if j = r then _ else _
    by_cases e : j = r
    · rw [if_pos e]; exact hlt
    · rw [if_neg e]; exact h.gt j (by omega)
  · have h1 : (if j = r then wr.heap.size else g j) = g j := if_neg (by omega)
    have h2 : (if r = r then wr.heap.size else g r) = wr.heap.size := if_pos rfl
    show (if j = r then wr.heap.size else g j) ≠ (if r = r then wr.heap.size else g r)
    rw [h1, h2]
    have := (h.done j hj).lt
    omega
  · have h1 : (if j = r then wr.heap.size else g j) = g j := if_neg (by omega)
    show World.rowIs _ (if j = r then wr.heap.size else g j) _ _ _
    rw [h1]
    exact ((h.done j hj).alloc _).setOther (by have := h.gt j hj; show g j ≠ w.heap.size; omega) _
  · show World.rowIs _ (if r = r then wr.heap.size else g r) _ _ _
    rw [if_pos rfl]
    exact (hnew.setOther (by show wr.heap.size ≠ w.heap.size; omega) _).congr (fun i _ => by simp)

theorem mxI_step {w wi : World} {tr te : TypeId} {n m r c : Nat} {g : Nat → Nat} {Z : Nat → Nat → Value} {z v : Value} (h : MxI w wi tr te n m r c g Z z) (hv : v = Z r c) :
    MxI w (wi.setCell ⟨g r, c, none⟩ v) tr te n m r (c + 1) g Z z := by
  subst hv
  have hg := h.gt r (by omega)
  refine ⟨h.ext.setCell (by show w.heap.size ≤ g r; omega) _, h.top.setOther (by show w.heap.size ≠ g r; omega) _, h.gt, h.ne, fun j hj => (h.done j hj).setOther (h.ne j hj) _, (h.cur.set c _).congr (fun i _ => ?_)⟩
  by_cases e : i = c
  · subst e; simp
  · rw [if_neg e]
    by_cases hlt : i < c
    · rw [if_pos hlt, if_pos (by omega)]
    · rw [if_neg hlt, if_neg (by omega)]
theorem MxI.drew {w wi : World} {tr te : TypeId} {n m r c : Nat} {g : Nat → Nat} {Z : Nat → Nat → Value} {z : Value} (h : MxI w wi tr te n m r c g Z z) : MxI w wi.drew tr te n m r c g Z z :=
  ⟨h.ext.drew, h.top.drew, h.gt, h.ne, fun j hj => (h.done j hj).drew, h.cur.drew⟩

theorem mxI_done {w wi : World} {tr te : TypeId} {n m r c : Nat} {g : Nat → Nat} {Z : Nat → Nat → Value} {z : Value} (h : MxI w wi tr te n m r c g Z z) (hc : m ≤ c) : MxO w wi tr te n m (r + 1) g Z :=
  ⟨h.ext, h.top, h.gt, fun j hj => by
    by_cases e : j = r
    · subst e
      exact h.cur.congr (fun i hi => by rw [if_pos (by omega)])
    · exact h.done j (by omega)⟩

/-- The matrix as a list of rows. -/
def mkRows (n m : Nat) (Z : Nat → Nat → Int) : List (List Int) := (List.range n).map fun i => (List.range m).map fun j => Z i j
theorem mkRows_length (n m : Nat) (Z : Nat → Nat → Int) : (mkRows n m Z).length = n := by simp [mkRows]
theorem mkRows_at {n m : Nat} {Z : Nat → Nat → Int} {i : Nat} {r : List Int} (h : (mkRows n m Z)[i]? = some r) : i < n ∧ r = (List.range m).map fun j => Z i j := by
  unfold mkRows at h
  rw [List.getElem?_map] at h
  by_cases hi : i < n
  · rw [List.getElem?_range hi] at h; simp at h; exact ⟨hi, h.symm⟩
  · rw [List.getElem?_eq_none (by simp; omega)] at h; simp at h
theorem ent_mkRows {n m : Nat} {Z : Nat → Nat → Int} {i j : Nat} (hi : i < n) (hj : j < m) : ((mkRows n m Z).getD i []).getD j 0 = Z i j := by
  simp [mkRows, List.getD_eq_getElem?_getD, List.getElem?_range, hi, hj]

theorem MxO.rd {w wr : World} {tr te : TypeId} {n m r : Nat} {g : Nat → Nat} {k : IntKind} {Z : Nat → Nat → Int} (h : MxO w wr tr te n m r g (fun i j => .int k (Z i j))) (hr : n ≤ r) (hm : m ≤ 9223372036854775807) :
    RdM k wr (some ⟨w.heap.size, 0, none⟩) (mkRows n m Z) := fun _ => by
  refine ⟨w.heap.size, 0, rfl, fun i row hrow => ?_⟩
  obtain ⟨hi, rfl⟩ := mkRows_at hrow
  have hlen : ((List.range m).map fun j => Z i j).length = m := by simp
  refine ⟨.slice (some ⟨g i, 0, none⟩) m m, ?_, some ⟨g i, 0, none⟩, m, by rw [hlen], by rw [hlen]; exact Nat.le_refl _, by rw [hlen]; exact hm, fun _ => ⟨g i, 0, rfl, fun j x hx => ?_⟩⟩
  · have := h.top.cell hi
    rw [Nat.zero_add, this, if_pos (by omega)]
  · have hj : j < m := by
      rcases Nat.lt_or_ge j m with hl | hg
      · exact hl
      · rw [List.getElem?_eq_none (by simp; omega)] at hx; cases hx
    rw [Nat.zero_add, (h.done i (by omega)).cell hj]
    simp [hj] at hx
    rw [hx]

end Go.Proofs.Ytennjcjjegbhgaa
