/-
  Part 1 of a proof (walks and plain facts).
-/
import Derived.Test.YtennjcjjegbhgaaGreatRows
import Derived.WalkKit
import Derived.WalkSpells
import Derived.WalkLawsBesides
import Derived.Deep.QuietTactic
import Derived.BigQuiet
import Derived.Lib.Hide
import Derived.Deep.Draws
import Derived.Deep.AppendLies
import Derived.Laws.OwnMore
import Derived.Deep.OwnRows
import Derived.Deep.LoopGhost
import Derived.Deep.Light
import Derived.Deep.Cut
import Derived.Deep.CutRange
import Derived.CellFam
import Derived.BigGuard
import Derived.BigRegion
import Derived.Maps.AppendAt
import Derived.RegionTactic
import Derived.OwnWalk
import Derived.Laws.AppendOwn
import Derived.Orders

namespace Go.Proofs.YtennjcjjegbhgaaGreat
open Go.RowKit

/-- Of what lay in w nothing has turned in w'. -/
def Ext (w w' : World) : Prop := Below w.heap.size w w'

theorem Ext.refl (w : World) : Ext w w := Below.refl _ _
theorem Ext.trans {a b c : World} (h : Ext a b) (k : Ext b c) : Ext a c := Below.trans h (Below.mono k h.size)
theorem Ext.drew {a b : World} (h : Ext a b) : Ext a b.drew := Below.drew h
theorem Ext.drewN {a b : World} (h : Ext a b) (n : Nat) : Ext a (b.drewN n) := ⟨h.os, h.tape, h.output, h.size, h.block⟩
theorem Ext.alloc {a b : World} (h : Ext a b) (o : Obj) : Ext a (b.alloc o) := Below.alloc h h.size o
theorem Ext.setCell {a b : World} (h : Ext a b) {p : Addr} (hp : a.heap.size ≤ p.block) (u : Value) : Ext a (b.setCell p u) := Below.setCell h hp u
theorem Ext.grown {a b c : World} {row : Option Nat} (h : Ext a b) (hg : b.grownBy c row) (hr : ∀ k, row = some k → a.heap.size ≤ k) : Ext a c :=
  Below.grown h hg h.size hr
theorem Ext.cell {a b : World} (h : Ext a b) {p : Addr} {v : Value} (hp : a.cell? p = some v) : b.cell? p = some v := by
  have hlt : p.block < a.heap.size := by
    rcases Nat.lt_or_ge p.block a.heap.size with hl | hg
    · exact hl
    · unfold World.cell? at hp; rw [Array.getElem?_eq_none hg] at hp; simp at hp
  rw [Below.cell h hlt]; exact hp
theorem Ext.size {a b : World} (h : Ext a b) : a.heap.size ≤ b.heap.size := Below.size h

theorem cell_lt {w : World} {p : Addr} {v : Value} (hp : w.cell? p = some v) : p.block < w.heap.size := by
  rcases Nat.lt_or_ge p.block w.heap.size with hl | hg
  · exact hl
  · unfold World.cell? at hp; rw [Array.getElem?_eq_none hg] at hp; simp at hp

/-- A slice of one-cell elements at A reads as xs. -/
def Rd (w : World) (A : Option Addr) (xs : List Value) : Prop :=
  xs ≠ [] → ∃ b off, A = some ⟨b, off, none⟩ ∧ ∀ i x, xs[i]? = some x → w.cell? ⟨b, off + i, none⟩ = some x

theorem Rd.nil (w : World) (A : Option Addr) : Rd w A [] := fun h => absurd rfl h
theorem Rd.ext {w w' : World} {A : Option Addr} {xs : List Value} (h : Rd w A xs) (k : Ext w w') : Rd w' A xs := fun hne => by
  obtain ⟨b, off, rfl, hc⟩ := h hne
  exact ⟨b, off, rfl, fun i x hx => k.cell (hc i x hx)⟩
theorem Rd.at_ {w : World} {A : Option Addr} {xs : List Value} (h : Rd w A xs) {k : Nat} {x : Value} (hk : xs[k]? = some x) :
    ∃ b off, A = some ⟨b, off, none⟩ ∧ w.cell? ⟨b, off + k, none⟩ = some x := by
  obtain ⟨b, off, rfl, hc⟩ := h (by rintro rfl; simp at hk)
  exact ⟨b, off, rfl, hc k x hk⟩

/-- A slice of integers of kind k. -/
def RdI (k : IntKind) (w : World) (A : Option Addr) (zs : List Int) : Prop := Rd w A (zs.map (Value.int k))

theorem RdI.nil (k : IntKind) (w : World) (A : Option Addr) : RdI k w A [] := Rd.nil w A
theorem RdI.ext {k : IntKind} {w w' : World} {A : Option Addr} {zs : List Int} (h : RdI k w A zs) (e : Ext w w') : RdI k w' A zs := Rd.ext h e
theorem RdI.at_ {k : IntKind} {w : World} {A : Option Addr} {zs : List Int} (h : RdI k w A zs) {i : Nat} {z : Int} (hi : zs[i]? = some z) :
    ∃ b off, A = some ⟨b, off, none⟩ ∧ w.cell? ⟨b, off + i, none⟩ = some (.int k z) := Rd.at_ h (by simp [hi])

/-- A value that is a slice of int64 and reads as zs. -/
def SlI (k : IntKind) (w : World) (v : Value) (zs : List Int) : Prop :=
  ∃ B c, v = .slice B zs.length c ∧ zs.length ≤ c ∧ zs.length ≤ 9223372036854775807 ∧ RdI k w B zs
theorem SlI.ext {k : IntKind} {w w' : World} {v : Value} {zs : List Int} (h : SlI k w v zs) (e : Ext w w') : SlI k w' v zs := by
  obtain ⟨B, c, h1, h2, h3, h4⟩ := h
  exact ⟨B, c, h1, h2, h3, h4.ext e⟩

/-- A slice of slices of integers. -/
def RdM (k : IntKind) (w : World) (A : Option Addr) (rows : List (List Int)) : Prop :=
  rows ≠ [] → ∃ b off, A = some ⟨b, off, none⟩ ∧ ∀ i r, rows[i]? = some r → ∃ v, w.cell? ⟨b, off + i, none⟩ = some v ∧ SlI k w v r
theorem RdM.nil (k : IntKind) (w : World) (A : Option Addr) : RdM k w A [] := fun h => absurd rfl h
theorem RdM.ext {k : IntKind} {w w' : World} {A : Option Addr} {rows : List (List Int)} (h : RdM k w A rows) (e : Ext w w') : RdM k w' A rows := fun hne => by
  obtain ⟨b, off, rfl, hc⟩ := h hne
  exact ⟨b, off, rfl, fun i r hr => by obtain ⟨v, h1, h2⟩ := hc i r hr; exact ⟨v, e.cell h1, h2.ext e⟩⟩
theorem RdM.at_ {k : IntKind} {w : World} {A : Option Addr} {rows : List (List Int)} (h : RdM k w A rows) {i : Nat} {r : List Int} (hi : rows[i]? = some r) :
    ∃ b off B c, A = some ⟨b, off, none⟩ ∧ w.cell? ⟨b, off + i, none⟩ = some (.slice B r.length c) ∧ r.length ≤ c ∧ r.length ≤ 9223372036854775807 ∧ RdI k w B r := by
  obtain ⟨b, off, rfl, hc⟩ := h (by rintro rfl; simp at hi)
  obtain ⟨v, h1, B, c, rfl, h3, h4, h5⟩ := hc i r hi
  exact ⟨b, off, B, c, rfl, h1, h3, h4, h5⟩

theorem getElem?_of_lt {α : Type} {l : List α} {k : Nat} (h : k < l.length) : ∃ x, l[k]? = some x := ⟨l[k], List.getElem?_eq_getElem h⟩

theorem ret_int {k : IntKind} {a b : Int} (h : a = b) : Ending.returned (.int k a) = .returned (.int k b) := by rw [h]
theorem ret_bool {a b : Bool} (h : a = b) : Ending.returned (.bool a) = .returned (.bool b) := by rw [h]

end Go.Proofs.YtennjcjjegbhgaaGreat

/-
  A matrix that the call makes, row by row: 'make([][]T, n)', then for each row 'm[i] = make([]T, k)' and one store a cell. T has one cell.
-/
namespace Go.Proofs.YtennjcjjegbhgaaGreat
open Go.RowKit

theorem rowIs_ext {w w' : World} {b : Nat} {t : TypeId} {n : Nat} {f : Nat → Value} (h : w.rowIs b t n f) (e : Ext w w') : w'.rowIs b t n f := h.of_block (e.block b h.lt)
theorem rowIs_drewN {w : World} {b : Nat} {t : TypeId} {n : Nat} {f : Nat → Value} (h : w.rowIs b t n f) (k : Nat) : (w.drewN k).rowIs b t n f := h
/-- A row of integers that the call owns reads as a list. -/
theorem RdI.of_row {k : IntKind} {w : World} {b : Nat} {t : TypeId} {n : Nat} {f : Nat → Value} {zs : List Int} (h : w.rowIs b t n f) (hl : zs.length ≤ n) (hf : ∀ i z, zs[i]? = some z → f i = .int k z) :
    RdI k w (some ⟨b, 0, none⟩) zs := fun _ => ⟨b, 0, rfl, fun i x hx => by
  rw [List.getElem?_map] at hx
  cases hz : zs[i]? with
  | none => rw [hz] at hx; cases hx
  | some z =>
    rw [hz] at hx
    have hi : i < zs.length := by
      rcases Nat.lt_or_ge i zs.length with hl | hg
      · exact hl
      · rw [List.getElem?_eq_none hg] at hz; cases hz
    rw [Nat.zero_add, h.cell (by omega), hf i z hz]
    simpa using hx⟩

/-- r rows of n are made; w: the world ahead of the making. -/
structure MxO (w wr : World) (tr te : TypeId) (n m r : Nat) (g : Nat → Nat) (Z : Nat → Nat → Value) : Prop where
  ext : Ext w wr
  top : wr.rowIs w.heap.size tr n (fun j => if j < r then .slice (some ⟨g j, 0, none⟩) m m else .slice none 0 0)
  gt : ∀ j, j < r → w.heap.size < g j
  done : ∀ j, j < r → wr.rowIs (g j) te m (Z j)

/-- Row r is made, c of its cells are filled. -/
structure MxI (w wi : World) (tr te : TypeId) (n m r c : Nat) (g : Nat → Nat) (Z : Nat → Nat → Value) (z : Value) : Prop where
  ext : Ext w wi
  top : wi.rowIs w.heap.size tr n (fun j => if j < r + 1 then .slice (some ⟨g j, 0, none⟩) m m else .slice none 0 0)
  gt : ∀ j, j < r + 1 → w.heap.size < g j
  ne : ∀ j, j < r → g j ≠ g r
  done : ∀ j, j < r → wi.rowIs (g j) te m (Z j)
  cur : wi.rowIs (g r) te m (fun i => if i < c then Z r i else z)

theorem mxO_start (w : World) (tr te : TypeId) (n m : Nat) (g : Nat → Nat) (Z : Nat → Nat → Value) : MxO w (w.alloc (.cells (madeCells #[.slice none 0 0] n) tr)) tr te n m 0 g Z :=
  ⟨(Ext.refl _).alloc _, (World.rowIs_made w _ n tr).congr (fun j _ => by simp), fun j hj => absurd hj (Nat.not_lt_zero _), fun j hj => absurd hj (Nat.not_lt_zero _)⟩

theorem MxO.lt {w wr : World} {tr te : TypeId} {n m r : Nat} {g : Nat → Nat} {Z : Nat → Nat → Value} (h : MxO w wr tr te n m r g Z) : w.heap.size < wr.heap.size := h.top.lt

theorem mxI_start {w wr : World} {tr te : TypeId} {n m r : Nat} {g : Nat → Nat} {Z : Nat → Nat → Value} (z : Value) (h : MxO w wr tr te n m r g Z) :
    MxI w ((wr.alloc (.cells (madeCells #[z] m) te)).setCell ⟨w.heap.size, r, none⟩ (.slice (some ⟨wr.heap.size, 0, none⟩) m m)) tr te n m r 0 (fun j => if j = r then wr.heap.size else g j) Z z := by
  have hlt := h.lt
  have hnew := World.rowIs_made wr z m te
  refine ⟨(h.ext.alloc _).setCell (Nat.le_refl _) _, ((h.top.alloc _).set r _).congr (fun j _ => ?_), fun j hj => ?_, fun j hj => ?_, fun j hj => ?_, ?_⟩
  · by_cases e : j = r
    · subst e; simp
    · by_cases hl : j < r
      · rw [if_neg e, if_pos hl, if_pos (by omega)]; simp [e]
      · rw [if_neg e, if_neg hl, if_neg (by omega)]
  · show w.heap.size < if j = r then _ else _
    by_cases e : j = r
    · rw [if_pos e]; exact hlt
    · rw [if_neg e]; exact h.gt j (by omega)
  · have h1 : (if j = r then wr.heap.size else g j) = g j := if_neg (by omega)
    have h2 : (if r = r then wr.heap.size else g r) = wr.heap.size := if_pos rfl
    show (if j = r then wr.heap.size else g j) ≠ (if r = r then wr.heap.size else g r)
    rw [h1, h2]
    have := (h.done j hj).lt
    omega
  · have h1 : (if j = r then wr.heap.size else g j) = g j := if_neg (by omega)
    show World.rowIs _ (if j = r then wr.heap.size else g j) _ _ _
    rw [h1]
    exact ((h.done j hj).alloc _).setOther (by have := h.gt j hj; show g j ≠ w.heap.size; omega) _
  · show World.rowIs _ (if r = r then wr.heap.size else g r) _ _ _
    rw [if_pos rfl]
    exact (hnew.setOther (by show wr.heap.size ≠ w.heap.size; omega) _).congr (fun i _ => by simp)

theorem mxI_step {w wi : World} {tr te : TypeId} {n m r c : Nat} {g : Nat → Nat} {Z : Nat → Nat → Value} {z v : Value} (h : MxI w wi tr te n m r c g Z z) (hv : v = Z r c) :
    MxI w (wi.setCell ⟨g r, c, none⟩ v) tr te n m r (c + 1) g Z z := by
  subst hv
  have hg := h.gt r (by omega)
  refine ⟨h.ext.setCell (by show w.heap.size ≤ g r; omega) _, h.top.setOther (by show w.heap.size ≠ g r; omega) _, h.gt, h.ne, fun j hj => (h.done j hj).setOther (h.ne j hj) _, (h.cur.set c _).congr (fun i _ => ?_)⟩
  by_cases e : i = c
  · subst e; simp
  · rw [if_neg e]
    by_cases hlt : i < c
    · rw [if_pos hlt, if_pos (by omega)]
    · rw [if_neg hlt, if_neg (by omega)]
theorem MxI.drew {w wi : World} {tr te : TypeId} {n m r c : Nat} {g : Nat → Nat} {Z : Nat → Nat → Value} {z : Value} (h : MxI w wi tr te n m r c g Z z) : MxI w wi.drew tr te n m r c g Z z :=
  ⟨h.ext.drew, h.top.drew, h.gt, h.ne, fun j hj => (h.done j hj).drew, h.cur.drew⟩

theorem mxI_done {w wi : World} {tr te : TypeId} {n m r c : Nat} {g : Nat → Nat} {Z : Nat → Nat → Value} {z : Value} (h : MxI w wi tr te n m r c g Z z) (hc : m ≤ c) : MxO w wi tr te n m (r + 1) g Z :=
  ⟨h.ext, h.top, h.gt, fun j hj => by
    by_cases e : j = r
    · subst e
      exact h.cur.congr (fun i hi => by rw [if_pos (by omega)])
    · exact h.done j (by omega)⟩

/-- The matrix as a list of rows. -/
def mkRows (n m : Nat) (Z : Nat → Nat → Int) : List (List Int) := (List.range n).map fun i => (List.range m).map fun j => Z i j
theorem mkRows_length (n m : Nat) (Z : Nat → Nat → Int) : (mkRows n m Z).length = n := by simp [mkRows]
theorem mkRows_at {n m : Nat} {Z : Nat → Nat → Int} {i : Nat} {r : List Int} (h : (mkRows n m Z)[i]? = some r) : i < n ∧ r = (List.range m).map fun j => Z i j := by
  unfold mkRows at h
  rw [List.getElem?_map] at h
  by_cases hi : i < n
  · rw [List.getElem?_range hi] at h; simp at h; exact ⟨hi, h.symm⟩
  · rw [List.getElem?_eq_none (by simp; omega)] at h; simp at h
theorem ent_mkRows {n m : Nat} {Z : Nat → Nat → Int} {i j : Nat} (hi : i < n) (hj : j < m) : ((mkRows n m Z).getD i []).getD j 0 = Z i j := by
  simp [mkRows, List.getD_eq_getElem?_getD, List.getElem?_range, hi, hj]

theorem MxO.rd {w wr : World} {tr te : TypeId} {n m r : Nat} {g : Nat → Nat} {k : IntKind} {Z : Nat → Nat → Int} (h : MxO w wr tr te n m r g (fun i j => .int k (Z i j))) (hr : n ≤ r) (hm : m ≤ 9223372036854775807) :
    RdM k wr (some ⟨w.heap.size, 0, none⟩) (mkRows n m Z) := fun _ => by
  refine ⟨w.heap.size, 0, rfl, fun i row hrow => ?_⟩
  obtain ⟨hi, rfl⟩ := mkRows_at hrow
  have hlen : ((List.range m).map fun j => Z i j).length = m := by simp
  refine ⟨.slice (some ⟨g i, 0, none⟩) m m, ?_, some ⟨g i, 0, none⟩, m, by rw [hlen], by rw [hlen]; exact Nat.le_refl _, by rw [hlen]; exact hm, fun _ => ⟨g i, 0, rfl, fun j x hx => ?_⟩⟩
  · have := h.top.cell hi
    rw [Nat.zero_add, this, if_pos (by omega)]
  · have hj : j < m := by
      rcases Nat.lt_or_ge j m with hl | hg
      · exact hl
      · rw [List.getElem?_eq_none (by simp; omega)] at hx; cases hx
    rw [Nat.zero_add, (h.done i (by omega)).cell hj]
    simp [hj] at hx
    rw [hx]

end Go.Proofs.YtennjcjjegbhgaaGreat

/-
  append onto a row of the call's own, whatever the source (nil, empty or not); an own row as a whole block.
-/
namespace Go.Proofs.YtennjcjjegbhgaaGreat
open Go.RowKit

section
variable {P : Program} (w : World)

theorem run_append_nil (base : Nat) (t ty e : TypeId) (i : TypeInfo) (size : Nat) (ht : P.underlying t = some (.slice e)) (hi : P.info? e = some i)
    (v : Value) (n : Nat) (xs : List Value) (hown : w.ownsRow base e size v n xs) (c : Nat) : (Builtin.append_ #[t, t] ty #[v, .slice none 0 c]).run P w = .ok v w := by
  rcases hown.2 with ⟨rfl, rfl⟩ | ⟨g, cap, cur, rfl, _, _, hnc, _⟩
  · simp [Builtin.append_, run_underlying ht, sizeOf, typeInfo, hi, Builtin.lenOf, Builtin.firstCells]
  · simp [Builtin.append_, run_underlying ht, sizeOf, typeInfo, hi, Builtin.lenOf, Builtin.firstCells, hnc, storeCells]

theorem run_append_rd (base : Nat) (t ty e : TypeId) (z : Value) (size bytes : Nat) (ht : P.underlying t = some (.slice e)) (hinfo : (P.info? e).map (fun i => (i.zero, i.size, i.bytes)) = some (some z, size, bytes))
    (hzs : z.cells.size = size) (hsz : 0 < size)
    (v : Value) (n : Nat) (xs : List Value) (hown : w.ownsRow base e size v n xs)
    (A : Option Addr) (m c : Nat) (news : List Value) (hr : Rd w A news) (hl : news.length = m * size) (h1 : ∀ u ∈ news, u.oneCell' = true)
    (h63 : n + m ≤ maxLen) (hbytes : (n + m) * bytes ≤ 140737488355328) (hbase : base ≤ w.heap.size) :
    ∃ v' w', (Builtin.append_ #[t, t] ty #[v, .slice A m c]).run P w = .ok v' w' ∧ w'.ownsRow base e size v' (n + m) (xs ++ news) ∧ w.grownBy w' v.ownBlock ∧ (v'.ownBlock = v.ownBlock ∨ v'.ownBlock = some w.heap.size) := by
  obtain ⟨i, hi, hzz⟩ := Option.map_eq_some_iff.1 hinfo
  simp only [Prod.mk.injEq] at hzz
  obtain ⟨hz, hs, hb⟩ := hzz
  by_cases hne : news = []
  · subst hne
    have hm : m = 0 := by
      rcases Nat.eq_zero_or_pos m with h0 | h0
      · exact h0
      · have := Nat.mul_pos h0 hsz; simp at hl; omega
    subst hm
    rcases A with _ | ad
    · exact ⟨v, w, run_append_nil w base t ty e i size ht hi v n xs hown c, by simpa using hown, World.grownBy.refl w _, .inl rfl⟩
    · obtain ⟨v', w', hrun, h2, h3, _, h5⟩ := run_append_own_at (P := P) w base t ty e i z size bytes ht hi hz hs hb hzs hsz v n xs hown ad 0 c [] (by simp) (by simp) (by simp) h63 hbytes hbase
      exact ⟨v', w', hrun, h2, h3, h5⟩
  · obtain ⟨b, off, rfl, hc⟩ := hr hne
    obtain ⟨v', w', hrun, h2, h3, _, h5⟩ := run_append_own_at (P := P) w base t ty e i z size bytes ht hi hz hs hb hzs hsz v n xs hown ⟨b, off, none⟩ m c news hl (fun j u hu => by
      have := hc j u hu
      unfold Addr.add
      split
      · rename_i h0; subst h0; simpa using this
      · exact this) h1 h63 hbytes hbase
    exact ⟨v', w', hrun, h2, h3, h5⟩

theorem wpList_append_rd {ops : Array Oper} {rest : List Oper} {o : Oper} {a : Act} {Q : Exit → Act → World → Prop} (hgd : o.guard = none) (s x : Operand) (t : TypeId)
    (ho : o.op = .call { callee := .builtin .append, args := #[s, x], argTypes := #[t, t] })
    (base : Nat) (e : TypeId) (z : Value) (size bytes : Nat) (ht : P.underlying t = some (.slice e)) (hinfo : (P.info? e).map (fun i => (i.zero, i.size, i.bytes)) = some (some z, size, bytes))
    (hzs : z.cells.size = size) (hsz : 0 < size)
    (v : Value) (n : Nat) (xs : List Value) (hs : a.eval s = v) (hown : w.ownsRow base e size v n xs)
    (A : Option Addr) (m c : Nat) (news : List Value) (hx : a.eval x = .slice A m c) (hr : Rd w A news) (hl : news.length = m * size) (h1 : ∀ u ∈ news, u.oneCell' = true)
    (h63 : n + m ≤ maxLen) (hbytes : (n + m) * bytes ≤ 140737488355328) (hbase : base ≤ w.heap.size)
    (h : ∀ v' w', w'.ownsRow base e size v' (n + m) (xs ++ news) → w.grownBy w' v.ownBlock → (v'.ownBlock = v.ownBlock ∨ v'.ownBlock = some w.heap.size) → wpList P ops Q rest (a.put o.dst v') w') : wpList P ops Q (o :: rest) a w := by
  refine wpList_plain hgd fun K hK => ?_
  obtain ⟨v', w', hrun, h2, h3, h4⟩ := run_append_rd (P := P) w base t o.type e z size bytes ht hinfo hzs hsz v n xs hown A m c news hr hl h1 h63 hbytes hbase
  unfold Oper.wp execOp
  simp only [ho, resolve, invoke, builtin, Sem.run_bind, Sem.run_pure, Result.andThen_ok, List.map_toArray, List.map_cons, List.map_nil, hs, hx, hrun]
  exact hK _ _ (h v' w' h2 h3 h4)
end

theorem oneCell_ints {k : IntKind} {zs : List Int} : ∀ u ∈ zs.map (Value.int k), u.oneCell' = true := by
  intro u hu
  obtain ⟨z, _, rfl⟩ := List.mem_map.1 hu
  rfl

/-- An own row reads as what it owns. -/
theorem Rd.of_own {w : World} {base : Nat} {e : TypeId} {A : Option Addr} {n c : Nat} {xs : List Value} {m : Nat} (h : w.ownsRow base e 1 (.slice A n c) m xs) : Rd w A xs := fun hne => by
  obtain ⟨hl, h2⟩ := h
  rcases h2 with ⟨hv, hn⟩ | ⟨g, cap, cur, hv, hg, hh, hnc, hm, hs, ht⟩
  · subst hn; simp at hl; exact absurd hl hne
  · injection hv with h1 h2 h3
    subst h1
    refine ⟨g, 0, rfl, fun i x hx => ?_⟩
    rw [← ht] at hx
    rw [List.getElem?_take] at hx
    split at hx
    · rename_i hi
      simp [World.cell?, hh]
      simpa using hx
    · cases hx

/-- An own row that is not empty is a block that is known whole. -/
theorem own_block {w : World} {base : Nat} {e : TypeId} {v : Value} {n : Nat} {xs : List Value} (h : w.ownsRow base e 1 v n xs) (hn : 0 < n) :
    ∃ g cap f, v = .slice (some ⟨g, 0, none⟩) n cap ∧ n ≤ cap ∧ base ≤ g ∧ w.rowIs g e cap f ∧ ∀ i x, xs[i]? = some x → f i = x := by
  obtain ⟨hl, h2⟩ := h
  rcases h2 with ⟨hv, hn'⟩ | ⟨g, cap, cur, hv, hg, hh, hnc, hm, hs, ht⟩
  · omega
  · refine ⟨g, cap, fun i => cur[i]?.getD undef, hv, hnc, hg, ⟨cur, hh, by omega, fun i hi => ?_⟩, fun i x hx => ?_⟩
    · have : i < cur.size := by omega
      simp [this]
    · rw [← ht, List.getElem?_take] at hx
      split at hx
      · have : cur[i]? = some x := by simpa using hx
        simp [this]
      · cases hx

theorem ownsRow_len {w : World} {base : Nat} {e : TypeId} {v : Value} {n : Nat} {xs : List Value} (h : w.ownsRow base e 1 v n xs) : ∃ A c, v = .slice A n c ∧ n ≤ c ∧ xs.length = n := by
  obtain ⟨hl, h2⟩ := h
  rcases h2 with ⟨hv, hn⟩ | ⟨g, cap, cur, hv, hg, hh, hnc, hm, hs, ht⟩
  · subst hn; exact ⟨none, 0, hv, Nat.le_refl _, by omega⟩
  · exact ⟨_, cap, hv, hnc, by omega⟩

theorem ownsRow_ext {w w' : World} {base : Nat} {e : TypeId} {size : Nat} {v : Value} {n : Nat} {xs : List Value} (h : w.ownsRow base e size v n xs) (k : Ext w w') : w'.ownsRow base e size v n xs := by
  obtain ⟨hl, h2⟩ := h
  refine ⟨hl, ?_⟩
  rcases h2 with h2 | ⟨g, cap, cur, hv, hg, hh, r⟩
  · exact .inl h2
  · refine .inr ⟨g, cap, cur, hv, hg, ?_, r⟩
    have hlt : g < w.heap.size := by
      rcases Nat.lt_or_ge g w.heap.size with hl | hge
      · exact hl
      · rw [Array.getElem?_eq_none hge] at hh; cases hh
    rw [k.block g hlt]; exact hh

theorem grown_ext {w w0 w' : World} {v : Value} {base : Nat} {e : TypeId} {size n : Nat} {xs : List Value} (hg : w.grownBy w' v.ownBlock) (ho : w.ownsRow base e size v n xs) (h : Ext w0 w) (hb : w0.heap.size ≤ base) : Ext w0 w' :=
  h.grown hg (fun k hk => by have := (ho.lt k hk).1; omega)

/-- An own row of elements of two cells, not empty, is a block that is known whole. -/
theorem own_block2 {w : World} {base : Nat} {e : TypeId} {v : Value} {n : Nat} {xs : List Value} (h : w.ownsRow base e 2 v n xs) (hn : 0 < n) :
    ∃ g cap f, v = .slice (some ⟨g, 0, none⟩) n cap ∧ n ≤ cap ∧ cap ≤ maxLen ∧ base ≤ g ∧ w.rowIs g e (cap * 2) f ∧ ∀ i x, xs[i]? = some x → f i = x := by
  obtain ⟨hl, h2⟩ := h
  rcases h2 with ⟨hv, hn'⟩ | ⟨g, cap, cur, hv, hg, hh, hnc, hm, hs, ht⟩
  · omega
  · refine ⟨g, cap, fun i => cur[i]?.getD undef, hv, hnc, hm, hg, ⟨cur, hh, by omega, fun i hi => ?_⟩, fun i x hx => ?_⟩
    · have : i < cur.size := by omega
      simp [this]
    · rw [← ht, List.getElem?_take] at hx
      split at hx
      · have : cur[i]? = some x := by simpa using hx
        simp [this]
      · cases hx

end Go.Proofs.YtennjcjjegbhgaaGreat

/-
  An abstract machine for code whose data are trees: words and the relation to the model's worlds.
  PV: a pure value (a scalar, a slice that nobody writes any more, an address of such cells). AV: a cell of a variable: pure, or a slice or an address of the call's own memory, or unknown.
  AS: the values of the slots and the call's own memory (families of rows).
-/
namespace Go.Proofs.YtennjcjjegbhgaaGreat
open Go.RowKit

inductive PV where
  | raw (v : Value)
  | sl (xs : List (List PV))
  | ptr (cs : List PV)

inductive AV where
  | p (x : PV)
  | sl (a r off len : Nat)
  | ptr (a r i j : Nat)
  | junk

inductive TV where
  | one (x : AV)
  | agg (cs : List AV)
  | tup (ts : List (Bool × List AV))

structure OObj where
  ty : TypeId
  es : Nat
  elems : List (List AV)

abbrev OH := Nat → List OObj

structure AS where
  tmps : List TV
  H : OH

/-- v in w reads as the pure value, in blocks that are not of X. -/
inductive Rep (X : Nat → Prop) (w : World) : PV → Value → Prop
  | raw (v : Value) (h : v.oneCell' = true) : Rep X w (.raw v) v
  | nil (a : Option Addr) (c : Nat) : Rep X w (.sl []) (.slice a 0 c)
  | sl (b off es cap : Nat) (xs : List (List PV)) (f : Nat → Nat → Value) (hX : ¬ X b) (hb : b < w.heap.size) (hes : ∀ e ∈ xs, e.length = es) (hcap : xs.length ≤ cap) (hm : xs.length ≤ 9223372036854775807)
      (hc : ∀ (i : Nat) e (j : Nat) x, xs[i]? = some e → e[j]? = some x → w.cell? ⟨b, off + i * es + j, none⟩ = some (f i j))
      (hr : ∀ (i : Nat) e (j : Nat) x, xs[i]? = some e → e[j]? = some x → Rep X w x (f i j)) : Rep X w (.sl xs) (.slice (some ⟨b, off, none⟩) xs.length cap)
  | ptr (b off : Nat) (cs : List PV) (f : Nat → Value) (hX : ¬ X b) (hb : b < w.heap.size)
      (hc : ∀ (j : Nat) x, cs[j]? = some x → w.cell? ⟨b, off + j, none⟩ = some (f j))
      (hr : ∀ (j : Nat) x, cs[j]? = some x → Rep X w x (f j)) : Rep X w (.ptr cs) (.pointer (some ⟨b, off, none⟩))

theorem Rep.one {X : Nat → Prop} {w : World} {x : PV} {v : Value} (h : Rep X w x v) : v.oneCell' = true := by
  cases h <;> first | assumption | rfl

/-- Rows outside X that have cells stay. -/
def Stays (X : Nat → Prop) (w w' : World) : Prop := w.heap.size ≤ w'.heap.size ∧ ∀ p v, ¬ X p.block → w.cell? p = some v → w'.cell? p = some v

theorem Rep.stays {X : Nat → Prop} {w w' : World} (hs : Stays X w w') {x : PV} {v : Value} (h : Rep X w x v) : Rep X w' x v := by
  induction h with
  | raw v h => exact .raw v h
  | nil a c => exact .nil a c
  | sl b off es cap xs f hX hb hes hcap hm hc hr ih => exact .sl b off es cap xs f hX (Nat.lt_of_lt_of_le hb hs.1) hes hcap hm (fun i e j x h1 h2 => hs.2 _ _ hX (hc i e j x h1 h2)) ih
  | ptr b off cs f hX hb hc hr ih => exact .ptr b off cs f hX (Nat.lt_of_lt_of_le hb hs.1) (fun j x h1 => hs.2 _ _ hX (hc j x h1)) ih

theorem Rep.weaken {X Y : Nat → Prop} {w : World} (hs : ∀ b, b < w.heap.size → Y b → X b) {x : PV} {v : Value} (h : Rep X w x v) : Rep Y w x v := by
  induction h with
  | raw v h => exact .raw v h
  | nil a c => exact .nil a c
  | sl b off es cap xs f hX hb hes hcap hm hc hr ih => exact .sl b off es cap xs f (fun h => hX (hs _ hb h)) hb hes hcap hm hc ih
  | ptr b off cs f hX hb hc hr ih => exact .ptr b off cs f (fun h => hX (hs _ hb h)) hb hc ih

abbrev Rho := Nat → Nat → Option (Nat × Nat)

/-- The blocks that are the call's own, or foreign and barred. -/
def Xo (X : Nat → Prop) (ρ : Rho) (H : OH) : Nat → Prop := fun b => X b ∨ ∃ (a r : Nat) (o : OObj) (c : Nat), (H a)[r]? = some o ∧ ρ a r = some (b, c)

def AV.rel (ρ : Rho) (H : OH) (X : Nat → Prop) (w : World) : AV → Value → Prop
  | .p x, v => Rep X w x v
  | .sl a r off len, v => ∃ o, (H a)[r]? = some o ∧ off + len ≤ o.elems.length ∧
      ((ρ a r = none ∧ v = .slice none 0 0 ∧ len = 0 ∧ off = 0) ∨ ∃ b c, ρ a r = some (b, c) ∧ v = .slice (some ⟨b, off * o.es, none⟩) len (c - off))
  | .ptr a r i j, v => ∃ o b c, (H a)[r]? = some o ∧ ρ a r = some (b, c) ∧ i < o.elems.length ∧ v = .pointer (some ⟨b, i * o.es + j, none⟩)
  | .junk, _ => True

def aggRel (ρ : Rho) (H : OH) (X : Nat → Prop) (w : World) (cs : List AV) (v : Value) : Prop :=
  ∃ vs : Array Value, v = .agg vs ∧ vs.size = cs.length ∧ ∀ (j : Nat) x, cs[j]? = some x → ∃ u : Value, vs[j]? = some u ∧ u.oneCell' = true ∧ x.rel ρ H X w u

def TV.rel (ρ : Rho) (H : OH) (X : Nat → Prop) (w : World) : TV → Value → Prop
  | .one x, v => x.rel ρ H X w v
  | .agg cs, v => aggRel ρ H X w cs v
  | .tup ts, v => ∃ vs : Array Value, v = .tuple vs ∧ vs.size = ts.length ∧ ∀ (j : Nat) b cs, ts[j]? = some (b, cs) → ∃ u : Value, vs[j]? = some u ∧
      ((b = true ∧ aggRel ρ H X w cs u) ∨ (b = false ∧ ∃ x, cs = [x] ∧ x.rel ρ H X w u))

/-- Row (a, r) of the own memory lies in its block. -/
def objRel (ρ : Rho) (H : OH) (X : Nat → Prop) (w : World) (a r : Nat) (o : OObj) : Prop :=
  (∀ e ∈ o.elems, e.length = o.es) ∧ 0 < o.es ∧
  match ρ a r with
  | none => o.elems = []
  | some (b, c) => ∃ cells, w.heap[b]? = some (.cells cells o.ty (0, 0)) ∧ cells.size = c * o.es ∧ o.elems.length ≤ c ∧ c ≤ 9223372036854775807 ∧
      ∀ (i : Nat) e (j : Nat) x, o.elems[i]? = some e → e[j]? = some x → ∃ v : Value, cells[i * o.es + j]? = some v ∧ v.oneCell' = true ∧ x.rel ρ H X w v

/-- Blocks of w0 that are not of O are as they were; no output, no tape has turned. -/
structure Keep (O : Nat → Prop) (w0 w : World) : Prop where
  os : w.os = w0.os
  tape : w.tape = w0.tape
  output : w.output = w0.output
  size : w0.heap.size ≤ w.heap.size
  block : ∀ k, k < w0.heap.size → ¬ O k → w.heap[k]? = w0.heap[k]?

/-- A cell of family a points into family a only. -/
def selfAV (a : Nat) : AV → Prop
  | .sl b _ _ _ => b = a
  | .ptr b _ _ _ => b = a
  | _ => True
def selfO (a : Nat) (o : OObj) : Prop := ∀ e ∈ o.elems, ∀ x ∈ e, selfAV a x

structure Inv (w0 : World) (O X : Nat → Prop) (H : OH) (ρ : Rho) (w : World) : Prop where
  keep : Keep O w0 w
  objs : ∀ (a r : Nat) (o : OObj), (H a)[r]? = some o → objRel ρ H (Xo X ρ H) w a r o
  inj : ∀ (a r a' r' : Nat) (o o' : OObj) (b c c' : Nat), (H a)[r]? = some o → (H a')[r']? = some o' → ρ a r = some (b, c) → ρ a' r' = some (b, c') → a = a' ∧ r = r'
  old : ∀ (a r : Nat) (o : OObj) (b c : Nat), (H a)[r]? = some o → ρ a r = some (b, c) → (w0.heap.size ≤ b ∨ O b) ∧ ¬ X b
  bar : ∀ b, X b → b < w.heap.size
  self : ∀ (a r : Nat) (o : OObj), (H a)[r]? = some o → selfO a o

/-- The slots and the world stand as the abstract state says. -/
def Rel (w0 : World) (O X : Nat → Prop) (s : AS) (a : Act) (w : World) : Prop :=
  a.defers = [] ∧ a.tmps.size = s.tmps.length ∧ ∃ ρ, Inv w0 O X s.H ρ w ∧
    ∀ (t : Nat) x, s.tmps[t]? = some x → ∃ v : Value, a.tmps[t]? = some v ∧ x.rel ρ s.H (Xo X ρ s.H) w v

end Go.Proofs.YtennjcjjegbhgaaGreat

/-
  The abstract machine: what an operation does to the abstract state.
-/
namespace Go.Proofs.YtennjcjjegbhgaaGreat
open Go.RowKit

def szO (P : Program) (t : TypeId) : Option Nat := (P.info? t).map (·.size)
def byO (P : Program) (t : TypeId) : Option Nat := (P.info? t).map (·.bytes)
def zeroO (P : Program) (t : TypeId) : Option (List Value) := ((P.info? t).bind (·.zero)).map (·.cells.toList)
def aggO (P : Program) (t : TypeId) : Option Bool := (P.underlying t).map fun | .struct _ => true | .array _ _ => true | _ => false
def sliceO (P : Program) (t : TypeId) : Option TypeId := (P.underlying t).bind fun | .slice e => some e | _ => none
def arrayO (P : Program) (t : TypeId) : Option (Nat × TypeId) := (P.underlying t).bind fun | .array n e => some (n, e) | _ => none
def intO (P : Program) (t : TypeId) : Option IntKind := (P.underlying t).bind fun | .int k => some k | _ => none
def boolO (P : Program) (t : TypeId) : Bool := match P.underlying t with | some .bool => true | _ => false
/-- Field f of struct t: its cell and its type. -/
def fieldO (P : Program) (t : TypeId) (f : Nat) : Option (Nat × TypeId) := (P.underlying t).bind fun | .struct fs => (fs[f]?).map fun d => (d.offset, d.type) | _ => none

abbrev AV.raw (v : Value) : AV := .p (.raw v)
abbrev TV.raw (v : Value) : TV := .one (.p (.raw v))
abbrev TV.undef : TV := .tup []

/-- A constant. -/
def ofConst : Value → TV
  | .agg cs => if cs.toList.all (·.oneCell') then .agg (cs.toList.map AV.raw) else .one .junk
  | v => if v.oneCell' then .raw v else .one .junk

def AS.ev (s : AS) : Operand → Option TV
  | .tmp t => s.tmps[t]?
  | .const v => some (ofConst v)
  | .global g => some (.raw (.pointer (some ⟨g, 0, none⟩)))
  | .func f => some (.raw (.func (.func f) #[] #[]))

def AS.put (s : AS) (d : Option Tmp) (t : TV) : AS :=
  match d with
  | some d => { s with tmps := s.tmps.set d t }
  | none => s

/-- A value of type t whose cells stand first in the list. -/
def packT (P : Program) (t : TypeId) (cs : List AV) : Option TV :=
  match szO P t, aggO P t with
  | some n, some true => if n ≤ cs.length then some (.agg (cs.take n)) else none
  | some _, some false => match cs with
    | x :: _ => some (.one x)
    | [] => none
  | _, _ => none

def evBin (bt : Bool) : BinOp → Value → Value → Option Value
  | .add, .int k a, .int k' b => if k = k' then some (.int k (k.wrap (a + b))) else none
  | .sub, .int k a, .int k' b => if k = k' then some (.int k (k.wrap (a - b))) else none
  | .mul, .int k a, .int k' b => if k = k' then some (.int k (k.wrap (a * b))) else none
  | .quo, .int k a, .int k' b => if k = k' ∧ b ≠ 0 then some (.int k (k.wrap (a.tdiv b))) else none
  | .rem, .int k a, .int k' b => if k = k' ∧ b ≠ 0 then some (.int k (a.tmod b)) else none
  | .shl, .int k a, .int _ b => if 0 ≤ b then some (.int k (k.wrap (a * 2 ^ (min b.toNat k.bits)))) else none
  | .shr, .int k a, .int _ b => if 0 ≤ b then some (.int k (a.fdiv (2 ^ (min b.toNat k.bits)))) else none
  | .and, .int k a, .int k' b => if k = k' then some (.int k (k.wrap ((BitVec.ofInt k.bits a &&& BitVec.ofInt k.bits b).toNat : Int))) else none
  | .or, .int k a, .int k' b => if k = k' then some (.int k (k.wrap ((BitVec.ofInt k.bits a ||| BitVec.ofInt k.bits b).toNat : Int))) else none
  | .xor, .int k a, .int k' b => if k = k' then some (.int k (k.wrap ((BitVec.ofInt k.bits a ^^^ BitVec.ofInt k.bits b).toNat : Int))) else none
  | .eql, .int k a, .int k' b => if k = k' then some (.bool (decide (a = b))) else none
  | .neq, .int k a, .int k' b => if k = k' then some (.bool (!decide (a = b))) else none
  | .lss, .int k a, .int k' b => if k = k' then some (.bool (decide (a < b))) else none
  | .leq, .int k a, .int k' b => if k = k' then some (.bool (decide (a ≤ b))) else none
  | .gtr, .int k a, .int k' b => if k = k' then some (.bool (decide (b < a))) else none
  | .geq, .int k a, .int k' b => if k = k' then some (.bool (decide (b ≤ a))) else none
  | .eql, .bool a, .bool b => if bt = true then some (.bool (a == b)) else none
  | .neq, .bool a, .bool b => if bt = true then some (.bool (!(a == b))) else none
  | _, _, _ => none

def evUn : UnOp → Value → Option Value
  | .neg, .int k n => some (.int k (k.wrap (0 - n)))
  | .not, .bool b => some (.bool !b)
  | _, _ => none

/-- Operations that look at slots alone and pass own slices on unseen. -/
def effM (P : Program) (ev : Operand → Option TV) : Op → Option TV
  | .move x => ev x
  | .assign x => ev x
  | .pick c a b => match ev c with
    | some (.one (.p (.raw (.bool true)))) => ev a
    | some (.one (.p (.raw (.bool false)))) => ev b
    | _ => none
  | .binOp op t x y _ => match ev x, ev y with
    | some (.one (.p (.raw a))), some (.one (.p (.raw b))) => (evBin (boolO P t) op a b).map TV.raw
    | _, _ => none
  | .unOp op _ x => match ev x with
    | some (.one (.p (.raw a))) => (evUn op a).map TV.raw
    | _ => none
  | .convert src dst x => match ev x, P.underlying src, intO P dst with
    | some (.one (.p (.raw (.int _ n)))), some _, some k => some (.raw (.int k (k.wrap n)))
    | _, _, _ => none
  | .extract t i => match ev t with
    | some (.tup ts) => match ts[i]? with
      | some (true, cs) => some (.agg cs)
      | some (false, [x]) => some (.one x)
      | _ => none
    | _ => none
  | _ => none

def isM : Op → Bool
  | .move _ | .assign _ | .pick .. | .binOp .. | .unOp .. | .convert .. | .extract .. => true
  | _ => false

def natOf (z : Int) : Option Nat := if 0 ≤ z then some z.toNat else none

def bound (ev : Operand → Option TV) : Option Operand → Nat → Option Nat
  | none, d => some d
  | some x, _ => match ev x with
    | some (.one (.p (.raw (.int _ n)))) => natOf n
    | _ => none

/-- The cells of a value that may be stored. -/
def cellsOf : TV → Option (List AV)
  | .one (.p x) => some [.p x]
  | .agg cs => some cs
  | _ => none
/-- The fields of a struct: cell and number of cells. -/
def placesO (P : Program) (t : TypeId) : Option (List (Nat × Nat)) := (P.underlying t).bind fun | .struct fs => fs.toList.mapM (fun f => (P.info? f.type).map fun i => (f.offset, i.size)) | _ => none
/-- Set the parts of a struct into its cells. -/
def fillA (pl : List (Nat × Nat)) (ev : Operand → Option TV) : List AV → List (Nat × Operand) → Option (List AV)
  | cs, [] => some cs
  | cs, (f, x) :: rest => match pl[f]?, (ev x).bind cellsOf with
    | some (off, n), some ys => if ys.length = n ∧ off + n ≤ cs.length then fillA pl ev (cs.take off ++ ys ++ cs.drop (off + n)) rest else none
    | _, _ => none

/-- Operations that leave all memory as it is. -/
def effR (P : Program) (ev : Operand → Option TV) (H : OH) : Op → Option TV
  | .load t a => match ev a with
    | some (.one (.p (.ptr cs))) => packT P t (cs.map AV.p)
    | some (.one (.ptr a r i j)) => match (H a)[r]? with
      | some o => match o.elems[i]? with
        | some e => packT P t (e.drop j)
        | none => none
      | none => none
    | _ => none
  | .indexAddr t x ix => match ev ix with
    | some (.one (.p (.raw (.int _ n)))) => match natOf n with
      | none => none
      | some i => match sliceO P t, ev x with
        | some e, some (.one (.p (.sl xs))) => match xs[i]? with
          | some c => if szO P e = some c.length then some (.one (.p (.ptr c))) else none
          | none => none
        | some e, some (.one (.sl a r off len)) => match (H a)[r]? with
          | some o => if szO P e = some o.es ∧ i < len then some (.one (.ptr a r (off + i) 0)) else none
          | none => none
        | _, _ => none
    | _ => none
  | .fieldAddr t x f => match fieldO P t f, ev x with
    | some (off, ft), some (.one (.p (.ptr cs))) => match szO P ft with
      | some (_ + 1) => some (.one (.p (.ptr (cs.drop off))))
      | _ => none
    | some (off, ft), some (.one (.ptr a r i j)) => match szO P ft with
      | some (_ + 1) => some (.one (.ptr a r i (j + off)))
      | _ => none
    | _, _ => none
  | .field t x f => match fieldO P t f, ev x with
    | some (off, ft), some (.agg cs) => packT P ft (cs.drop off)
    | _, _ => none
  | .slice t x lo hi none => match sliceO P t, ev x with
    | some e, some (.one (.p (.sl xs))) => match bound ev lo 0, bound ev hi xs.length, szO P e with
      | some l, some h, some n => if l ≤ h ∧ h ≤ xs.length ∧ ∀ c ∈ xs, c.length = n then some (.one (.p (.sl ((xs.take h).drop l)))) else none
      | _, _, _ => none
    | some e, some (.one (.sl a r off len)) => match bound ev lo 0, bound ev hi len, (H a)[r]? with
      | some l, some h, some o => if szO P e = some o.es ∧ l < h ∧ h ≤ len then some (.one (.sl a r (off + l) (h - l))) else if szO P e = some o.es ∧ l = h ∧ h ≤ len then some (.one (.p (.sl []))) else none
      | _, _, _ => none
    | _, _ => none
  | .build t parts => match zeroO P t, placesO P t with
    | some z, some pl => if z.all (·.oneCell') then (fillA pl ev (z.map AV.raw) parts.toList).map TV.agg else none
    | _, _ => none
  | .nilCheck x => match ev x with
    | some (.one (.p (.ptr cs))) => some (.one (.p (.ptr cs)))
    | some (.one (.ptr a r i j)) => some (.one (.ptr a r i j))
    | _ => none
  | .call { callee := .builtin .len, args, argTypes } => match args.toList, argTypes.toList with
    | [x], [t] => match sliceO P t, ev x with
      | some _, some (.one (.p (.sl xs))) => some (.raw (.int .i64 xs.length))
      | some _, some (.one (.sl _ _ _ len)) => some (.raw (.int .i64 len))
      | some _, some (.one (.p (.raw (.slice _ n _)))) => some (.raw (.int .i64 n))
      | _, _ => none
    | _, _ => none
  | _ => none

def isR : Op → Bool
  | .load .. | .indexAddr .. | .fieldAddr .. | .field .. | .slice .. | .build .. | .nilCheck .. | .call { callee := .builtin .len, .. } => true
  | _ => false

def isPure : AV → Bool
  | .p _ => true
  | _ => false
def unP : AV → PV
  | .p x => x
  | _ => .raw undef

def renAV (d : Nat) : AV → AV
  | .sl _ r off len => .sl d r off len
  | .ptr _ r i j => .ptr d r i j
  | x => x
def renTV (d : Nat) : TV → TV
  | .one x => .one (renAV d x)
  | .agg cs => .agg (cs.map (renAV d))
  | .tup ts => .tup (ts.map fun t => (t.1, t.2.map (renAV d)))
def renO (d : Nat) (o : OObj) : OObj := { o with elems := o.elems.map (List.map (renAV d)) }
def famH (d : Nat) (F : List OObj) : OH := fun a => if a = d then F else []
def updH (H : OH) (d : Nat) (F : List OObj) : OH := fun a => if a = d then F else H a

def killAV (k : Nat → Nat → Bool) : AV → AV
  | .sl a r off len => if k a r then .junk else .sl a r off len
  | .ptr a r i j => if k a r then .junk else .ptr a r i j
  | x => x
def killTV (k : Nat → Nat → Bool) : TV → TV
  | .one x => .one (killAV k x)
  | .agg cs => .agg (cs.map (killAV k))
  | .tup ts => .tup (ts.map fun t => (t.1, t.2.map (killAV k)))
def killO (k : Nat → Nat → Bool) (o : OObj) : OObj := { o with elems := o.elems.map (List.map (killAV k)) }

/-- What a call gives: the memory that it made (one family, written as number 0) and the result. -/
structure CallRes where
  fam : List OObj
  r : TV

def callable (P : Program) (f : FuncId) : Bool := match P.funcs[f]? with
  | some fn => fn.body.isSome && !(fn.name == "runtime.NumGoroutine")
  | none => false

/-- The contract of a function whose arguments are pure: it makes the family and the result, and turns nothing that lay. -/
def CallC (P : Program) (f : FuncId) (args : List TV) (res : CallRes) : Prop :=
  callable P f = true ∧ ∀ (X : Nat → Prop) (w : World) (vs : Array Value), (∀ b, X b → b < w.heap.size) → vs.size = args.length →
    (∀ (j : Nat) t, args[j]? = some t → ∃ v : Value, vs[j]? = some v ∧ t.rel (fun _ _ => none) (fun _ => []) X w v) →
    Calls P f vs w fun e w' => ∃ v, e = .returned v ∧ ∃ ρ : Rho,
      Inv w (fun _ => False) X (famH 0 res.fam) ρ w' ∧ res.r.rel ρ (famH 0 res.fam) (Xo X ρ (famH 0 res.fam)) w' v

def rawAV : AV → Bool
  | .p (.raw _) => true
  | _ => false
def rawTV : TV → Bool
  | .one x => rawAV x
  | .agg cs => cs.all rawAV
  | .tup ts => ts.all fun t => t.2.all rawAV
/-- The result holds no address. -/
def CallRes.plain (res : CallRes) : Bool := res.fam.isEmpty && rawTV res.r

def noRefAV : AV → Bool
  | .sl .. => false
  | .ptr .. => false
  | _ => true
def noRefTV : TV → Bool
  | .one x => noRefAV x
  | .agg cs => cs.all noRefAV
  | .tup ts => ts.all fun t => t.2.all noRefAV

structure Item (P : Program) where
  i : Nat
  f : FuncId
  args : List TV
  res : CallRes
  h : CallC P f args res

/-- The argument as a contract says it: an own slice that reads as pure values, nil as the empty slice. -/
def norm (H : OH) : TV → TV
  | .one (.sl a r off len) => match (H a)[r]? with
    | some o => .one (.p (.sl ((((o.elems.take (off + len)).drop off)).map (List.map unP))))
    | none => .one .junk
  | .one (.p (.raw (.slice none 0 0))) => .one (.p (.sl []))
  | t => t
/-- The argument is pure, or (own: allowed) an own slice of pure cells. -/
def normOk (own : Bool) (H : OH) : TV → Bool
  | .one (.sl a r _ _) => own && match (H a)[r]? with
    | some o => o.elems.all fun e => e.all isPure
    | none => false
  | .one (.p _) => true
  | .agg cs => cs.all isPure
  | _ => false

/-- The elements of a slice that is appended. -/
def newsOf (H : OH) : TV → Option (List (List AV))
  | .one (.p (.sl xs)) => some (xs.map (List.map AV.p))
  | .one (.p (.raw (.slice none 0 0))) => some []
  | .one (.sl a r off len) => match (H a)[r]? with
    | some o => if o.elems.all fun e => e.all isPure then some ((o.elems.take (off + len)).drop off) else none
    | none => none
  | _ => none

def evAll (ev : Operand → Option TV) : List Operand → Option (List TV)
  | [] => some []
  | x :: l => match ev x, evAll ev l with
    | some t, some ts => some (t :: ts)
    | _, _ => none

/-- The elements of a slice literal. -/
def litA (ev : Operand → Option TV) (n : Nat) : Nat → List (Nat × Operand) → Option (List (List AV))
  | _, [] => some []
  | i, (k, x) :: rest => match (ev x).bind cellsOf, litA ev n (i + 1) rest with
    | some cs, some l => if k = i ∧ cs.length = n ∧ cs.all isPure then some (cs :: l) else none
    | _, _ => none

open Classical in
/-- Operations that make memory: the value and the new family. -/
noncomputable def effA (P : Program) (items : List (Item P)) (ow : List Nat) (i d : Nat) (ev : Operand → Option TV) (H : OH) : Op → Option (TV × List OObj)
  | .box e x => match (ev x).bind cellsOf with
    | some cs => if cs.all isPure ∧ 0 < cs.length then some (.one (.ptr d 0 0 0), [⟨e, cs.length, [cs]⟩]) else none
    | none => none
  | .alloc e => match zeroO P e with
    | some z => if z.all (·.oneCell') ∧ 0 < z.length then some (.one (.ptr d 0 0 0), [⟨e, z.length, [z.map AV.raw]⟩]) else none
    | none => none
  | .makeSlice t l c => match ev l, ev c, sliceO P t with
    | some (.one (.p (.raw (.int _ n)))), some (.one (.p (.raw (.int _ m)))), some e => match zeroO P e, szO P e, byO P e with
      | some z, some sz, some by_ => if 0 ≤ n ∧ n ≤ m ∧ m ≤ 9223372036854775807 ∧ (by_ : Int) * m ≤ 281474976710656 ∧ z.length = sz ∧ 0 < sz ∧ z.all (·.oneCell') then
          some (.one (.sl d 0 0 n.toNat), [⟨e, sz, List.replicate n.toNat (z.map AV.raw)⟩]) else none
      | _, _, _ => none
    | _, _, _ => none
  | .buildSlice t n parts => match sliceO P t with
    | some e => match zeroO P e, szO P e with
      | some z, some sz => match litA ev sz 0 parts.toList with
        | some l => if l.length = n ∧ n * sz ≤ 16777216 ∧ z.length = sz ∧ 0 < sz then
            if ow.contains d then some (.one (.sl d 0 0 n), [⟨e, sz, l⟩]) else some (.one (.p (.sl (l.map (List.map unP)))), []) else none
        | none => none
      | _, _ => none
    | none => none
  | .call c => match c.callee with
    | .value (.func f) => match items.find? (·.i == i), evAll ev c.args.toList with
      | some it, some ts => if it.f = f ∧ ts.map (norm H) = it.args ∧ ts.all (normOk it.res.plain H) ∧ (!it.res.fam.isEmpty || noRefTV it.res.r) then some (renTV d it.res.r, it.res.fam.map (renO d)) else none
      | _, _ => none
    | .builtin .append => match c.args.toList, c.argTypes.toList with
      | [s, x], [t, t'] => match ev s, (ev x).bind (newsOf H), sliceO P t with
        | some (.one (.p (.raw (.slice none 0 0)))), some news, some e => match zeroO P e, szO P e, byO P e with
          | some z, some sz, some by_ => if t = t' ∧ news.length * by_ ≤ 140737488355328 ∧ news.length ≤ 9223372036854775807 ∧ z.length = sz ∧ 0 < sz ∧ (∀ e ∈ news, e.length = sz) then
              some (.one (.sl d 0 0 news.length), [⟨e, sz, news⟩]) else none
          | _, _, _ => none
        | _, _, _ => none
      | _, _ => none
    | _ => none
  | _ => none

/-- The element with cells from j on replaced. -/
def putCells (e : List AV) (j : Nat) (cs : List AV) : List AV := e.take j ++ cs ++ e.drop (j + cs.length)

structure DRes where
  t : TV
  H : OH
  k : Nat → Nat → Bool

/-- Operations that write the call's own memory. -/
def effD (P : Program) (ev : Operand → Option TV) (H : OH) : Op → Option DRes
  | .store t a x => match ev a, szO P t with
    | some (.one (.ptr a r i j)), some n => match (H a)[r]? with
      | some o => match o.elems[i]? with
        | some e => match ev x with
          | some (.one (.sl a' r' off len)) =>
            if a' = a then
              if n = 1 ∧ j < e.length then some ⟨.undef, updH H a ((H a).set r { o with elems := o.elems.set i (putCells e j [.sl a' r' off len]) }), fun _ _ => false⟩ else none
            else match H a' with
              | [ob] => if r' = 0 ∧ off = 0 ∧ len = ob.elems.length ∧ n = 1 ∧ j < e.length ∧ ob.elems.all (fun e => e.all isPure) then
                  some ⟨.undef, updH (updH H a ((H a).set r { o with elems := o.elems.set i (putCells e j [.sl a (H a).length 0 len]) } ++ [ob])) a' [], fun x _ => x == a'⟩ else none
              | _ => none
          | some v => match cellsOf v with
            | some cs => if cs.length = n ∧ j + n ≤ e.length ∧ cs.all isPure then
                some ⟨.undef, updH H a ((H a).set r { o with elems := o.elems.set i (putCells e j cs) }), fun _ _ => false⟩ else none
            | none => none
          | none => none
        | none => none
      | none => none
    | _, _ => none
  | .call c => match c.callee, c.args.toList, c.argTypes.toList with
    | .builtin .append, [s, x], [t, t'] => match ev s, (ev x).bind (newsOf H), sliceO P t with
      | some (.one (.sl a r off len)), some news, some e => match (H a)[r]?, zeroO P e, szO P e, byO P e with
        | some o, some z, some sz, some by_ => if t = t' ∧ o.ty = e ∧ o.es = sz ∧ o.elems.all (fun e => e.all isPure) ∧ off = 0 ∧ len = o.elems.length ∧ (len + news.length) * by_ ≤ 140737488355328 ∧ len + news.length ≤ 9223372036854775807 ∧ z.length = sz ∧ (∀ e ∈ news, e.length = sz) then
            some ⟨.one (.sl a r 0 (len + news.length)), updH H a (((H a).map (killO fun x y => x == a && y == r)).set r { o with elems := o.elems ++ news }), fun x y => x == a && y == r⟩ else none
        | _, _, _, _ => none
      | _, _, _ => none
    | _, _, _ => none
  | _ => none

/-- One operation. -/
noncomputable def absOp (P : Program) (items : List (Item P)) (ow : List Nat) (i : Nat) (o : Oper) (s : AS) : Option AS :=
  if isM o.op then (effM P s.ev o.op).map (s.put o.dst)
  else if isR o.op then (effR P s.ev s.H o.op).map (s.put o.dst)
  else match effD P s.ev s.H o.op with
    | some q => some (AS.put ⟨s.tmps.map (killTV q.k), q.H⟩ o.dst q.t)
    | none => match o.dst with
      | none => none
      | some d => match effA P items ow i d s.ev s.H o.op with
        | some (t, []) => some (s.put (some d) t)
        | some (t, F) => match s.H d with
          | [] => some (AS.put ⟨s.tmps, updH s.H d F⟩ (some d) t)
          | _ => none
        | none => none

/-- One operation with its guard. -/
noncomputable def absStep (P : Program) (items : List (Item P)) (ow : List Nat) (ops : Array Oper) (i : Nat) (o : Oper) (s : AS) : Option AS :=
  match o.guard with
  | none => absOp P items ow i o s
  | some (g, want) => match (ops[g]?).bind (·.dst) with
    | none => none
    | some d => match s.tmps[d]? with
      | some (.one (.p (.raw (.bool b)))) => if b = want then absOp P items ow i o s else some (s.put o.dst .undef)
      | some (.tup []) => some (s.put o.dst .undef)
      | _ => none

noncomputable def runL (P : Program) (items : List (Item P)) (ow : List Nat) (ops : Array Oper) : List (Oper × Nat) → AS → Option AS
  | [], s => some s
  | (o, i) :: rest, s => match absStep P items ow ops i o s with
    | some s' => runL P items ow ops rest s'
    | none => none

end Go.Proofs.YtennjcjjegbhgaaGreat

/-
  The abstract machine: operations that leave memory alone are carried out as the model carries them out.
-/
namespace Go.Proofs.YtennjcjjegbhgaaGreat
open Go.RowKit

section
variable {P : Program} {ρ : Rho} {H : OH} {X : Nat → Prop} {w : World}

def EvRel (ρ : Rho) (H : OH) (X : Nat → Prop) (w : World) (ev : Operand → Option TV) (e : Operand → Value) : Prop := ∀ x t, ev x = some t → TV.rel ρ H X w t (e x)

theorem rel_raw {a v : Value} (h : TV.rel ρ H X w (.raw a) v) : v = a ∧ a.oneCell' = true := by
  cases h with
  | raw v h => exact ⟨rfl, h⟩
theorem rel_raw_mk {a : Value} (h : a.oneCell' = true) : TV.rel ρ H X w (.raw a) a := Rep.raw a h

theorem ofConst_rel (v : Value) : TV.rel ρ H X w (ofConst v) v := by
  unfold ofConst
  split
  · rename_i cs
    split
    · rename_i h
      simp only [List.all_eq_true] at h
      refine ⟨cs, rfl, by simp, fun j x hx => ?_⟩
      rw [List.getElem?_map] at hx
      cases hj : cs.toList[j]? with
      | none => rw [hj] at hx; cases hx
      | some u =>
        rw [hj] at hx
        simp at hx
        subst hx
        have h1 : u.oneCell' = true := h u (List.mem_of_getElem? hj)
        exact ⟨u, by simpa using hj, h1, Rep.raw u h1⟩
    · exact trivial
  · split
    · exact Rep.raw _ (by assumption)
    · exact trivial

theorem evBin_sound {op : BinOp} {a b v : Value} {t : TypeId} (h : evBin (boolO P t) op a b = some v) (x y : Operand) :
    (do eqGuard op t x y a b; binOp op t a b : Sem Value).run P w = .ok v w ∧ v.oneCell' = true := by
  unfold evBin at h
  split at h
  case h_1 | h_2 | h_3 | h_8 | h_9 | h_10 | h_11 | h_12 | h_13 | h_14 | h_15 | h_16 =>
    split at h
    · rename_i hk
      subst hk
      injection h with h
      subst h
      refine ⟨?_, rfl⟩
      show (if _ ≠ _ then _ else _ : Sem Value).run P w = _
      rw [if_neg (fun h => h rfl)]
      rfl
    · cases h
  case h_4 | h_5 =>
    split at h
    · rename_i hk
      obtain ⟨hk, hb⟩ := hk
      subst hk
      injection h with h
      subst h
      refine ⟨?_, rfl⟩
      show (if _ ≠ _ then _ else (if _ = _ then _ else _) : Sem Value).run P w = _
      rw [if_neg (fun h => h rfl), if_neg hb]
      rfl
    · cases h
  case h_6 | h_7 =>
    split at h
    · rename_i hb
      injection h with h
      subst h
      refine ⟨?_, rfl⟩
      show (if _ < _ then _ else _ : Sem Value).run P w = _
      rw [if_neg (by omega)]
      rfl
    · cases h
  case h_17 | h_18 =>
    split at h
    · rename_i hb
      injection h with h
      subst h
      have ht : P.underlying t = some .bool := by
        unfold boolO at hb
        split at hb
        · assumption
        · cases hb
      refine ⟨?_, rfl⟩
      first
        | exact run_eql_bool w t _ _ ht
        | exact run_neq_bool w t _ _ ht
    · cases h
  case h_19 => cases h

theorem evUn_sound {op : UnOp} {a v : Value} (h : evUn op a = some v) : (Op.unary op a).run P w = .ok v w ∧ v.oneCell' = true := by
  unfold evUn at h
  split at h
  · injection h with h; subst h; exact ⟨rfl, rfl⟩
  · injection h with h; subst h; exact ⟨rfl, rfl⟩
  · cases h

theorem run_v {s : Sem Value} {v : Value} {w' : World} (h : s.run P w = .ok v w') : (do pure (Next.value (← s)) : Sem Next).run P w = .ok (.value v) w' := by
  rw [Sem.run_bind, h]; rfl
theorem run_u {s : Sem Unit} {w' : World} (h : s.run P w = .ok () w') : (do s; pure Next.skip : Sem Next).run P w = .ok .skip w' := by
  rw [Sem.run_bind, h]; rfl

theorem effM_sound {ev : Operand → Option TV} {e : Operand → Value} (hev : EvRel ρ H X w ev e) {o : Oper} {t : TV} (h : effM P ev o.op = some t) :
    ∃ v, (execOp e o).run P w = .ok (.value v) w ∧ t.rel ρ H X w v := by
  unfold execOp
  cases ho : o.op <;> rw [ho] at h <;> simp only [effM] at h <;> try cases h
  case move x => exact ⟨_, rfl, hev x t h⟩
  case assign x => exact ⟨_, rfl, hev x t h⟩
  case pick c a b =>
    split at h
    · rename_i hc
      have := (rel_raw (hev c _ hc)).1
      refine ⟨e a, ?_, hev a t h⟩
      simp only [this]; rfl
    · rename_i hc
      have := (rel_raw (hev c _ hc)).1
      refine ⟨e b, ?_, hev b t h⟩
      simp only [this]; rfl
    · cases h
  case binOp op ty x y yt =>
    split at h
    · rename_i a b ha hb
      have h1 := (rel_raw (hev x _ ha)).1
      have h2 := (rel_raw (hev y _ hb)).1
      cases hv : evBin (boolO P ty) op a b with
      | none => rw [hv] at h; cases h
      | some v =>
        rw [hv] at h
        simp at h
        subst h
        obtain ⟨h3, h4⟩ := evBin_sound (P := P) (w := w) hv x y
        refine ⟨v, ?_, rel_raw_mk h4⟩
        simp only [h1, h2]
        exact run_v h3
    · cases h
  case unOp op ty x =>
    split at h
    · rename_i a ha
      have h1 := (rel_raw (hev x _ ha)).1
      cases hv : evUn op a with
      | none => rw [hv] at h; cases h
      | some v =>
        rw [hv] at h
        simp at h
        subst h
        obtain ⟨h3, h4⟩ := evUn_sound (P := P) (w := w) hv
        refine ⟨v, ?_, rel_raw_mk h4⟩
        simp only [h1]
        exact run_v h3
    · cases h
  case convert src dst x =>
    split at h
    · rename_i k n ds k' ha hs hk
      have h1 := (rel_raw (hev x _ ha)).1
      injection h with h
      subst h
      have hd : P.underlying dst = some (.int k') := by
        unfold intO at hk
        cases hu : P.underlying dst with
        | none => rw [hu] at hk; cases hk
        | some d => rw [hu] at hk; cases d <;> simp at hk; rw [hk]
      refine ⟨_, ?_, rel_raw_mk rfl⟩
      simp only [h1]
      refine run_v ?_
      unfold convert
      rw [Sem.run_bind, run_underlying hs, Result.andThen_ok, Sem.run_bind, run_underlying hd, Result.andThen_ok]
      rfl
    · cases h
  case extract x i =>
    split at h
    · rename_i ts ha
      obtain ⟨vs, hvs, hsz, hr⟩ := hev x _ ha
      split at h
      · rename_i cs hi
        injection h with h
        subst h
        obtain ⟨u, hu, hc⟩ := hr i _ _ hi
        rcases hc with ⟨_, hc⟩ | ⟨hc, _⟩
        · refine ⟨u, ?_, hc⟩
          refine run_v ?_
          simp only [hvs, Instr.extract, hu]; rfl
        · cases hc
      · rename_i y hi
        injection h with h
        subst h
        obtain ⟨u, hu, hc⟩ := hr i _ _ hi
        rcases hc with ⟨hc, _⟩ | ⟨_, z, hz, hc⟩
        · cases hc
        · injection hz with hz
          subst hz
          refine ⟨u, ?_, hc⟩
          refine run_v ?_
          simp only [hvs, Instr.extract, hu]; rfl
      · cases h
    · cases h
end
end Go.Proofs.YtennjcjjegbhgaaGreat

/-
  The abstract machine: operations that look at memory.
-/
namespace Go.Proofs.YtennjcjjegbhgaaGreat
open Go.RowKit

section
variable {P : Program} {ρ : Rho} {H : OH} {X : Nat → Prop} {w : World}

theorem szO_spec {t : TypeId} {n : Nat} (h : szO P t = some n) : ∃ i, P.info? t = some i ∧ i.size = n := by
  unfold szO at h
  cases hi : P.info? t with
  | none => rw [hi] at h; cases h
  | some i => rw [hi] at h; simp at h; exact ⟨i, rfl, h⟩
theorem run_tI {t : TypeId} {i : TypeInfo} (h : P.info? t = some i) : (typeInfo t).run P w = .ok i w := by
  unfold typeInfo
  show (match P.info? t with | some i => pure i | none => stuck "no such type" : Sem TypeInfo).run P w = _
  rw [h]; rfl
theorem run_szO {t : TypeId} {n : Nat} (h : szO P t = some n) : (sizeOf t).run P w = .ok n w := by
  obtain ⟨i, hi, hn⟩ := szO_spec h
  unfold sizeOf
  rw [Sem.run_bind, run_tI hi, Result.andThen_ok, hn]
  rfl
theorem run_aggO {t : TypeId} {b : Bool} (h : aggO P t = some b) : (isAgg t).run P w = .ok b w := by
  unfold aggO at h
  cases hu : P.underlying t with
  | none => rw [hu] at h; cases h
  | some d =>
    rw [hu] at h
    unfold isAgg
    rw [Sem.run_bind, run_underlying hu, Result.andThen_ok]
    cases d <;> simp at h <;> subst h <;> rfl
theorem sliceO_spec {t e : TypeId} (h : sliceO P t = some e) : P.underlying t = some (.slice e) := by
  unfold sliceO at h
  cases hu : P.underlying t with
  | none => rw [hu] at h; cases h
  | some d => rw [hu] at h; cases d <;> simp at h; rw [h]
theorem fieldO_spec {t : TypeId} {f off : Nat} {ft : TypeId} (h : fieldO P t f = some (off, ft)) : ∃ fs d, P.underlying t = some (.struct fs) ∧ fs[f]? = some d ∧ d.offset = off ∧ d.type = ft := by
  unfold fieldO at h
  cases hu : P.underlying t with
  | none => rw [hu] at h; cases h
  | some d =>
    rw [hu] at h
    cases d <;> simp at h
    rename_i fs
    obtain ⟨d, hd, h1, h2⟩ := h
    exact ⟨fs, d, rfl, hd, h1, h2⟩

def cellsAt (ρ : Rho) (H : OH) (X : Nat → Prop) (w : World) (b off : Nat) (cs : List AV) : Prop :=
  ∀ (j : Nat) x, cs[j]? = some x → ∃ v : Value, w.cell? ⟨b, off + j, none⟩ = some v ∧ v.oneCell' = true ∧ x.rel ρ H X w v

theorem cellsAt_drop {b off : Nat} {cs : List AV} (h : cellsAt ρ H X w b off cs) (k : Nat) : cellsAt ρ H X w b (off + k) (cs.drop k) := by
  intro j x hx
  rw [List.getElem?_drop] at hx
  obtain ⟨v, h1, h2⟩ := h _ _ hx
  exact ⟨v, by rw [← Nat.add_assoc] at h1; exact h1, h2⟩

/-- The cells' values as a list. -/
theorem cellsAt_list {b off : Nat} {cs : List AV} (h : cellsAt ρ H X w b off cs) :
    ∃ vs : List Value, vs.length = cs.length ∧ (∀ (j : Nat) v, vs[j]? = some v → w.cell? ((⟨b, off, none⟩ : Addr).add j) = some v) ∧ (∀ (j : Nat) x, cs[j]? = some x → ∃ u : Value, vs[j]? = some u ∧ u.oneCell' = true ∧ x.rel ρ H X w u) := by
  induction cs generalizing off with
  | nil => exact ⟨[], rfl, fun j v hv => by simp at hv, fun j x hx => by simp at hx⟩
  | cons c cs ih =>
    obtain ⟨v, h1, h2, h3⟩ := h 0 c rfl
    obtain ⟨vs, l1, l2, l3⟩ := ih (off := off + 1) (cellsAt_drop (cs := c :: cs) h 1)
    refine ⟨v :: vs, by simp [l1], fun j u hu => ?_, fun j x hx => ?_⟩
    · cases j with
      | zero => simp at hu; subst hu; simpa [Addr.add_lit] using h1
      | succ j =>
        simp at hu
        have := l2 j u hu
        rw [Addr.add_lit] at this ⊢
        rw [← this]; congr 2; omega
    · cases j with
      | zero => simp at hx; subst hx; exact ⟨v, rfl, h2, h3⟩
      | succ j => simp at hx; obtain ⟨u, h⟩ := l3 j x hx; exact ⟨u, by simpa using h.1, h.2⟩

theorem load_sound {t : TypeId} {cs : List AV} {T : TV} {b off : Nat} (h : packT P t cs = some T) (hc : cellsAt ρ H X w b off cs) :
    ∃ v, (loadVar t ⟨b, off, none⟩).run P w = .ok v w ∧ T.rel ρ H X w v := by
  unfold packT at h
  split at h
  · rename_i n hn ha
    split at h
    · rename_i hl
      injection h with h
      subst h
      obtain ⟨vs, l1, l2, l3⟩ := cellsAt_list (cs := cs.take n) (b := b) (off := off) (fun j x hx => by
        rw [List.getElem?_take] at hx
        split at hx
        · exact hc j x hx
        · cases hx)
      refine ⟨.agg vs.toArray, ?_, vs.toArray, rfl, by simp [l1], fun j x hx => ?_⟩
      · unfold loadVar
        rw [Sem.run_bind, run_aggO ha, Result.andThen_ok, if_pos rfl, Sem.run_bind, run_szO hn, Result.andThen_ok]
        have := run_loadCells_list (P := P) w ⟨b, off, none⟩ vs l2
        rw [show vs.length = n by rw [l1, List.length_take]; omega] at this
        rw [Sem.run_bind, this]
        rfl
      · simpa using l3 j x hx
    · cases h
  · rename_i hn ha
    split at h
    · rename_i x l
      injection h with h
      subst h
      obtain ⟨v, h1, h2, h3⟩ := hc 0 x rfl
      refine ⟨v, ?_, h3⟩
      unfold loadVar
      rw [Sem.run_bind, run_aggO ha, Result.andThen_ok, if_neg (by simp), run_load]
      simp only [Nat.add_zero] at h1
      rw [h1]
    · cases h
  · cases h

theorem rep_ptr_cells {cs : List PV} {v : Value} (h : Rep X w (.ptr cs) v) : ∃ b off, v = .pointer (some ⟨b, off, none⟩) ∧ ¬ X b ∧ cellsAt ρ H X w b off (cs.map AV.p) := by
  cases h with
  | ptr b off cs f hX hb hc hr =>
    refine ⟨b, off, rfl, hX, fun j x hx => ?_⟩
    rw [List.getElem?_map] at hx
    cases hj : cs[j]? with
    | none => rw [hj] at hx; cases hx
    | some y =>
      rw [hj] at hx
      simp at hx
      subst hx
      exact ⟨f j, hc j y hj, (hr j y hj).one, hr j y hj⟩

theorem rep_ptr_drop {cs : List PV} {b off k : Nat} (h : Rep X w (.ptr cs) (.pointer (some ⟨b, off, none⟩))) : Rep X w (.ptr (cs.drop k)) (.pointer (some ⟨b, off + k, none⟩)) := by
  cases h with
  | ptr b off cs f hX hb hc hr =>
    refine .ptr b (off + k) (cs.drop k) (fun j => f (k + j)) hX hb (fun j x hx => ?_) (fun j x hx => ?_)
    · rw [List.getElem?_drop] at hx
      rw [Nat.add_assoc]; exact hc _ _ hx
    · rw [List.getElem?_drop] at hx
      exact hr _ _ hx

theorem own_cells {a r : Nat} {o : OObj} {b c i : Nat} {e : List AV} (ho : objRel ρ H X w a r o) (hρ : ρ a r = some (b, c)) (he : o.elems[i]? = some e) : cellsAt ρ H X w b (i * o.es) e := by
  obtain ⟨_, _, h3⟩ := ho
  rw [hρ] at h3
  obtain ⟨cells, hh, _, _, _, hv⟩ := h3
  intro j x hx
  obtain ⟨v, h1, h2, h3⟩ := hv i e j x he hx
  refine ⟨v, ?_, h2, h3⟩
  unfold World.cell?
  simp only [hh]
  exact h1

theorem natOf_spec {z : Int} {n : Nat} (h : natOf z = some n) : 0 ≤ z ∧ z.toNat = n := by
  unfold natOf at h
  split at h
  · injection h with h; exact ⟨by assumption, h⟩
  · cases h

theorem effR_load {ev : Operand → Option TV} {e : Operand → Value} (hev : EvRel ρ H X w ev e) (hob : ∀ (a r : Nat) (o : OObj), (H a)[r]? = some o → objRel ρ H X w a r o)
    {o : Oper} {t : TypeId} {x : Operand} {T : TV} (ho : o.op = .load t x) (h : effR P ev H o.op = some T) : ∃ v, (execOp e o).run P w = .ok (.value v) w ∧ T.rel ρ H X w v := by
  unfold execOp
  rw [ho] at h ⊢
  simp only [effR] at h
  split at h
  · rename_i cs hx
    obtain ⟨b, off, hv, hX, hc⟩ := rep_ptr_cells (ρ := ρ) (H := H) (hev x _ hx)
    obtain ⟨v, h1, h2⟩ := load_sound h hc
    refine ⟨v, run_v ?_, h2⟩
    rw [hv]
    exact h1
  · rename_i a r i j hx
    obtain ⟨o', b, c, h1, h2, h3, hv⟩ := hev x _ hx
    split at h
    · rename_i o'' ho'
      rw [h1] at ho'
      injection ho' with ho'
      subst ho'
      split at h
      · rename_i el hel
        obtain ⟨v, g1, g2⟩ := load_sound h (cellsAt_drop (own_cells (hob a r _ h1) h2 hel) j)
        refine ⟨v, run_v ?_, g2⟩
        rw [hv]
        exact g1
      · cases h
    · cases h
  · cases h

theorem effR_indexAddr {ev : Operand → Option TV} {e : Operand → Value} (hev : EvRel ρ H X w ev e) (hob : ∀ (a r : Nat) (o : OObj), (H a)[r]? = some o → objRel ρ H X w a r o)
    {o : Oper} {t : TypeId} {x ix : Operand} {T : TV} (ho : o.op = .indexAddr t x ix) (h : effR P ev H o.op = some T) : ∃ v, (execOp e o).run P w = .ok (.value v) w ∧ T.rel ρ H X w v := by
  unfold execOp
  rw [ho] at h ⊢
  simp only [effR] at h
  split at h
  · rename_i k n hix
    have hn := (rel_raw (hev ix _ hix)).1
    split at h
    · cases h
    · rename_i i hi
      obtain ⟨h0, hi⟩ := natOf_spec hi
      split at h
      · rename_i el xs hs hx
        have hx := hev x _ hx
        split at h
        · rename_i c hc
          split at h
          · rename_i hsz
            injection h with h
            subst h
            generalize hvx : e x = vx at *
            have hil : i < xs.length := (List.getElem?_eq_some_iff.1 hc).1
            cases hx with
            | nil a c => simp at hil
            | sl b off es cap xs f hX hb hes hcap hm hcell hrep =>
              have hes' : c.length = es := hes c (List.mem_of_getElem? hc)
              refine ⟨.pointer (some ⟨b, off + i * es, none⟩), run_v ?_, .ptr b (off + i * es) c (f i) hX hb (fun j y hy => hcell i c j y hc hy) (fun j y hy => hrep i c j y hc hy)⟩
              unfold Instr.indexAt
              rw [hn, hvx, Sem.run_bind]
              show Result.andThen (.ok (k, n) w) _ = _
              rw [Result.andThen_ok]
              simp only [Sem.run_bind, run_underlying (sliceO_spec hs), Result.andThen_ok, Sem.run_pure]
              rw [if_pos ⟨h0, by omega⟩, Sem.run_bind, run_szO hsz, Result.andThen_ok]
              rw [hi, Addr.add_lit, hes']
              rfl
          · cases h
        · cases h
      · rename_i el a r off len hs hx
        obtain ⟨o', h1, h2, h3⟩ := hev x _ hx
        split at h
        · rename_i o'' ho'
          rw [h1] at ho'
          injection ho' with ho'
          subst ho'
          split at h
          · rename_i hcond
            injection h with h
            subst h
            rcases h3 with ⟨_, _, hlen, _⟩ | ⟨b, c, hρ, hv⟩
            · omega
            · refine ⟨.pointer (some ⟨b, (off + i) * o'.es + 0, none⟩), run_v ?_, o', b, c, h1, hρ, by omega, rfl⟩
              unfold Instr.indexAt
              rw [hn, hv, Sem.run_bind]
              show Result.andThen (.ok (k, n) w) _ = _
              rw [Result.andThen_ok]
              simp only [Sem.run_bind, run_underlying (sliceO_spec hs), Result.andThen_ok, Sem.run_pure]
              rw [if_pos ⟨h0, by omega⟩, Sem.run_bind, run_szO hcond.1, Result.andThen_ok]
              rw [hi, Addr.add_lit, Nat.add_zero, Nat.add_mul]
              rfl
          · cases h
        · cases h
      · cases h
  · cases h

theorem effR_fieldAddr {ev : Operand → Option TV} {e : Operand → Value} (hev : EvRel ρ H X w ev e)
    {o : Oper} {t : TypeId} {x : Operand} {f : Nat} {T : TV} (ho : o.op = .fieldAddr t x f) (h : effR P ev H o.op = some T) : ∃ v, (execOp e o).run P w = .ok (.value v) w ∧ T.rel ρ H X w v := by
  unfold execOp
  rw [ho] at h ⊢
  simp only [effR] at h
  split at h
  · rename_i off ft cs hf hx
    obtain ⟨b, o0, hv, hX, hc⟩ := rep_ptr_cells (ρ := ρ) (H := H) (hev x _ hx)
    have hx := hev x _ hx
    split at h
    · rename_i n hsz
      injection h with h
      subst h
      obtain ⟨fs, d, h1, h2, h3, h4⟩ := fieldO_spec hf
      rw [hv] at hx
      refine ⟨_, run_v ?_, rep_ptr_drop hx⟩
      unfold Instr.fieldAt
      rw [Sem.run_bind, run_underlying h1, Result.andThen_ok]
      simp only [h2, hv, Instr.sureAddr, Sem.run_bind, Sem.run_pure, Result.andThen_ok, fieldPlace, h4, run_szO hsz]
      rw [if_neg (by simp)]
      simp only [Sem.run_pure, Result.andThen_ok, h3, Addr.add_lit]
    · cases h
  · rename_i off ft a r i j hf hx
    obtain ⟨o', b, c, g1, g2, g3, hv⟩ := hev x _ hx
    split at h
    · rename_i n hsz
      injection h with h
      subst h
      obtain ⟨fs, d, h1, h2, h3, h4⟩ := fieldO_spec hf
      refine ⟨_, run_v ?_, o', b, c, g1, g2, g3, rfl⟩
      unfold Instr.fieldAt
      rw [Sem.run_bind, run_underlying h1, Result.andThen_ok]
      simp only [h2, hv, Instr.sureAddr, Sem.run_bind, Sem.run_pure, Result.andThen_ok, fieldPlace, h4, run_szO hsz]
      rw [if_neg (by simp)]
      simp only [Sem.run_pure, Result.andThen_ok, h3, Addr.add_lit, Nat.add_assoc]
    · cases h
  · cases h
end
end Go.Proofs.YtennjcjjegbhgaaGreat

/-
  The abstract machine: fields, slice expressions, struct literals, len.
-/
namespace Go.Proofs.YtennjcjjegbhgaaGreat
open Go.RowKit

section
variable {P : Program} {ρ : Rho} {H : OH} {X : Nat → Prop} {w : World}

theorem part_sound {t : TypeId} {cs : List AV} {T : TV} {vs : Array Value} {off : Nat} (h : packT P t (cs.drop off) = some T) (hs : vs.size = cs.length)
    (hc : ∀ (j : Nat) x, cs[j]? = some x → ∃ u : Value, vs[j]? = some u ∧ u.oneCell' = true ∧ x.rel ρ H X w u) :
    ∃ v, (part t vs off).run P w = .ok v w ∧ T.rel ρ H X w v := by
  unfold packT at h
  split at h
  · rename_i n hn ha
    split at h
    · rename_i hl
      injection h with h
      subst h
      refine ⟨.agg (vs.extract off (off + n)), ?_, _, rfl, ?_, fun j x hx => ?_⟩
      · unfold part
        rw [Sem.run_bind, run_aggO ha, Result.andThen_ok, if_pos rfl, Sem.run_bind, run_szO hn, Result.andThen_ok]
        rfl
      · simp at hl ⊢; omega
      · rw [List.getElem?_take] at hx
        split at hx
        · rename_i hj
          rw [List.getElem?_drop] at hx
          obtain ⟨u, h1, h2⟩ := hc _ x hx
          refine ⟨u, ?_, h2⟩
          rw [Array.getElem?_extract, if_pos (by have := (Array.getElem?_eq_some_iff.1 h1).1; omega)]
          exact h1
        · cases hx
    · cases h
  · rename_i hn ha
    split at h
    · rename_i x l hl
      injection h with h
      subst h
      have hx : cs[off]? = some x := by
        have : (cs.drop off)[0]? = some x := by rw [hl]; rfl
        rw [List.getElem?_drop] at this; simpa using this
      obtain ⟨u, h1, h2, h3⟩ := hc _ x hx
      refine ⟨u, ?_, h3⟩
      unfold part
      rw [Sem.run_bind, run_aggO ha, Result.andThen_ok, if_neg (by simp), h1]
      rfl
    · cases h
  · cases h

theorem effR_field {ev : Operand → Option TV} {e : Operand → Value} (hev : EvRel ρ H X w ev e)
    {o : Oper} {t : TypeId} {x : Operand} {f : Nat} {T : TV} (ho : o.op = .field t x f) (h : effR P ev H o.op = some T) : ∃ v, (execOp e o).run P w = .ok (.value v) w ∧ T.rel ρ H X w v := by
  unfold execOp
  rw [ho] at h ⊢
  simp only [effR] at h
  split at h
  · rename_i off ft cs hf hx
    obtain ⟨vs, hv, hs, hc⟩ := hev x _ hx
    obtain ⟨fs, d, h1, h2, h3, h4⟩ := fieldO_spec hf
    obtain ⟨v, g1, g2⟩ := part_sound h hs hc
    refine ⟨v, run_v ?_, g2⟩
    unfold Instr.field
    rw [Sem.run_bind, run_underlying h1, Result.andThen_ok]
    simp only [h2, hv, asAgg, Sem.run_bind, Sem.run_pure, Result.andThen_ok, h3, h4, g1]
  · cases h

theorem bound_spec {ev : Operand → Option TV} {e : Operand → Value} (hev : EvRel ρ H X w ev e) {x : Option Operand} {d n : Nat} (h : bound ev x d = some n) :
    (x = none ∧ n = d) ∨ ∃ y k z, x = some y ∧ e y = .int k z ∧ 0 ≤ z ∧ z.toNat = n := by
  unfold bound at h
  split at h
  · injection h with h; exact .inl ⟨rfl, h.symm⟩
  · rename_i dd y
    split at h
    · rename_i k z hy
      obtain ⟨h1, h2⟩ := natOf_spec h
      exact .inr ⟨y, k, z, rfl, (rel_raw (hev y _ hy)).1, h1, h2⟩
    · cases h

theorem run_sliceBound {k : IntKind} {z : Int} {y n : Nat} {c : BoundsCode} (h0 : 0 ≤ z) (hn : z.toNat = n) (hy : n ≤ y) : (Instr.sliceBound (.int k z) y c).run P w = .ok n w := by
  unfold Instr.sliceBound
  show (if 0 ≤ z ∧ z ≤ y then (pure z.toNat : Sem Nat) else boundsPanic k z y c).run P w = _
  rw [if_pos ⟨h0, by omega⟩, hn]
  rfl

theorem run_sliceBounds {ev : Operand → Option TV} {e : Operand → Value} (hev : EvRel ρ H X w ev e) {lo hi : Option Operand} {len cap l h : Nat} (hl : bound ev lo 0 = some l) (hh : bound ev hi len = some h) (h1 : l ≤ h) (h2 : h ≤ cap) :
    (Instr.sliceBounds true len cap (lo.map e) (hi.map e) none).run P w = .ok (l, h, cap) w := by
  unfold Instr.sliceBounds
  rcases bound_spec hev hl with ⟨rfl, rfl⟩ | ⟨y, k, z, rfl, a1, a2, a3⟩
  · rcases bound_spec hev hh with ⟨rfl, rfl⟩ | ⟨y', k', z', rfl, b1, b2, b3⟩
    · rfl
    · simp only [Option.map_some, Option.map_none, Sem.run_bind, Sem.run_pure, Result.andThen_ok, b1]
      rw [run_sliceBound b2 b3 h2]; rfl
  · rcases bound_spec hev hh with ⟨rfl, rfl⟩ | ⟨y', k', z', rfl, b1, b2, b3⟩
    · simp only [Option.map_some, Option.map_none, Sem.run_bind, Sem.run_pure, Result.andThen_ok, a1]
      rw [run_sliceBound a2 a3 h1]; rfl
    · simp only [Option.map_some, Option.map_none, Sem.run_bind, Sem.run_pure, Result.andThen_ok, a1, b1]
      rw [run_sliceBound b2 b3 h2, Result.andThen_ok, run_sliceBound a2 a3 h1]; rfl

theorem effR_slice {ev : Operand → Option TV} {e : Operand → Value} (hev : EvRel ρ H X w ev e) (hob : ∀ (a r : Nat) (o : OObj), (H a)[r]? = some o → objRel ρ H X w a r o)
    {o : Oper} {t : TypeId} {x : Operand} {lo hi mx : Option Operand} {T : TV} (ho : o.op = .slice t x lo hi mx) (h : effR P ev H o.op = some T) : ∃ v, (execOp e o).run P w = .ok (.value v) w ∧ T.rel ρ H X w v := by
  unfold execOp
  rw [ho] at h ⊢
  cases mx with
  | some _ => simp only [effR] at h; cases h
  | none =>
  simp only [effR] at h
  split at h
  · rename_i el xs hs hx
    have hx := hev x _ hx
    generalize hvx : e x = vx at *
    split at h
    · rename_i l hh n hl hhi hsz
      split at h
      · rename_i hcond
        injection h with h
        subst h
        obtain ⟨c1, c2, c3⟩ := hcond
        have hu := sliceO_spec hs
        cases hx with
        | nil a c =>
          have hh0 : hh = 0 := by simpa using c2
          subst hh0
          have hl0 : l = 0 := by omega
          subst hl0
          refine ⟨.slice (if c = 0 then a else a.map (·.add (0 * n))) (0 - 0) (c - 0), run_v ?_, ?_⟩
          · unfold Instr.sliceAt
            simp only [Sem.run_bind, run_underlying hu, Result.andThen_ok]
            unfold Instr.slice
            simp only [Sem.run_bind, run_underlying hu, Result.andThen_ok, hvx, Option.map_none]
            rw [run_sliceBounds hev hl (show bound ev hi 0 = some 0 from hhi) (Nat.le_refl _) (Nat.zero_le _), Result.andThen_ok]
            simp only [Sem.run_bind, run_szO hsz, Result.andThen_ok, Sem.run_pure]
          · simp only [List.take_nil, List.drop_nil]
            exact Rep.nil _ _
        | sl b off es cap xs f hX hb hes hcap hm hcell hrep =>
          refine ⟨.slice (if cap = l then some ⟨b, off, none⟩ else (some (⟨b, off, none⟩ : Addr)).map (·.add (l * n))) (hh - l) (cap - l), run_v ?_, ?_⟩
          · unfold Instr.sliceAt
            simp only [Sem.run_bind, run_underlying hu, Result.andThen_ok]
            unfold Instr.slice
            simp only [Sem.run_bind, run_underlying hu, Result.andThen_ok, hvx, Option.map_none]
            rw [run_sliceBounds hev hl hhi c1 (by omega), Result.andThen_ok]
            simp only [Sem.run_bind, run_szO hsz, Result.andThen_ok, Sem.run_pure]
          · show Rep _ _ _ _
            have hlen : ((xs.take hh).drop l).length = hh - l := by simp; omega
            by_cases hlh : l = hh
            · subst hlh
              rw [show (xs.take l).drop l = [] by rw [List.drop_eq_nil_iff]; simp; omega]
              rw [Nat.sub_self]
              exact Rep.nil _ _
            · rw [if_neg (by omega)]
              simp only [Option.map_some, Addr.add_lit]
              rw [← hlen]
              have hes' : es = n := by
                cases hx0 : xs with
                | nil => rw [hx0] at c2; simp at c2; omega
                | cons y ys => have h1 := hes y (by rw [hx0]; simp); have h2 := c3 y (by rw [hx0]; simp); omega
              subst hes'
              have hsub : ∀ (i : Nat) y, ((xs.take hh).drop l)[i]? = some y → xs[l + i]? = some y := fun i y hy => by
                rw [List.getElem?_drop, List.getElem?_take] at hy
                split at hy
                · exact hy
                · cases hy
              refine .sl b (off + l * es) es (cap - l) _ (fun i j => f (l + i) j) hX hb (fun y hy => hes y (List.mem_of_mem_take (List.mem_of_mem_drop hy))) (by rw [hlen]; omega) (by rw [hlen]; omega) (fun i y j z h1 h2 => ?_) (fun i y j z h1 h2 => hrep _ y j z (hsub i y h1) h2)
              have := hcell _ y j z (hsub i y h1) h2
              rw [← this]
              congr 2
              rw [Nat.add_mul]; omega
      · cases h
    · cases h
  · rename_i el a r off len hs hx
    obtain ⟨o', g1, g2, g3⟩ := hev x _ hx
    have hu := sliceO_spec hs
    split at h
    · rename_i l hh o'' hl hhi ho''
      rw [g1] at ho''
      injection ho'' with ho''
      subst ho''
      have hcle : ∀ b c, ρ a r = some (b, c) → o'.elems.length ≤ c := fun b c hρ => by
        obtain ⟨_, _, h3⟩ := hob a r o' g1
        rw [hρ] at h3
        obtain ⟨_, _, _, h, _⟩ := h3
        exact h
      split at h
      · rename_i hcond
        obtain ⟨c1, c2, c3⟩ := hcond
        injection h with h
        subst h
        rcases g3 with ⟨_, _, h0, _⟩ | ⟨b, c, hρ, hv⟩
        · omega
        · have := hcle b c hρ
          refine ⟨_, run_v ?_, o', g1, by omega, .inr ⟨b, c, hρ, rfl⟩⟩
          unfold Instr.sliceAt
          simp only [Sem.run_bind, run_underlying hu, Result.andThen_ok]
          unfold Instr.slice
          simp only [Sem.run_bind, run_underlying hu, Result.andThen_ok, hv, Option.map_none]
          rw [run_sliceBounds hev hl hhi (by omega) (by omega), Result.andThen_ok]
          simp only [Sem.run_bind, run_szO c1, Result.andThen_ok, Sem.run_pure]
          rw [if_neg (by omega)]
          simp only [Option.map_some, Addr.add_lit]
          rw [Nat.add_mul, Nat.sub_sub]
      · split at h
        · rename_i hcond
          obtain ⟨c1, c2, c3⟩ := hcond
          injection h with h
          subst h
          subst c2
          rcases g3 with ⟨_, hv, h0, _⟩ | ⟨b, c, hρ, hv⟩
          · refine ⟨.slice (if 0 = l then none else (none : Option Addr).map (·.add (l * o'.es))) 0 (0 - l), run_v ?_, Rep.nil _ _⟩
            unfold Instr.sliceAt
            simp only [Sem.run_bind, run_underlying hu, Result.andThen_ok]
            unfold Instr.slice
            simp only [Sem.run_bind, run_underlying hu, Result.andThen_ok, hv, Option.map_none]
            subst h0
            rw [run_sliceBounds hev hl hhi (by omega) (by omega), Result.andThen_ok]
            simp only [Sem.run_bind, run_szO c1, Result.andThen_ok, Sem.run_pure, Nat.sub_self]
          · have := hcle b c hρ
            refine ⟨.slice (if c - off = l then some ⟨b, off * o'.es, none⟩ else (some (⟨b, off * o'.es, none⟩ : Addr)).map (·.add (l * o'.es))) 0 (c - off - l), run_v ?_, Rep.nil _ _⟩
            unfold Instr.sliceAt
            simp only [Sem.run_bind, run_underlying hu, Result.andThen_ok]
            unfold Instr.slice
            simp only [Sem.run_bind, run_underlying hu, Result.andThen_ok, hv, Option.map_none]
            rw [run_sliceBounds hev hl hhi (by omega) (by omega), Result.andThen_ok]
            simp only [Sem.run_bind, run_szO c1, Result.andThen_ok, Sem.run_pure, Nat.sub_self]
        · cases h
    · cases h
  · cases h

theorem effR_nilCheck {ev : Operand → Option TV} {e : Operand → Value} (hev : EvRel ρ H X w ev e)
    {o : Oper} {x : Operand} {T : TV} (ho : o.op = .nilCheck x) (h : effR P ev H o.op = some T) : ∃ v, (execOp e o).run P w = .ok (.value v) w ∧ T.rel ρ H X w v := by
  unfold execOp
  rw [ho] at h ⊢
  simp only [effR] at h
  split at h
  · rename_i cs hx
    obtain ⟨b, off, hv, hX, hc⟩ := rep_ptr_cells (ρ := ρ) (H := H) (hev x _ hx)
    injection h with h
    subst h
    refine ⟨e x, ?_, hev x _ hx⟩
    simp only [hv]; rfl
  · rename_i a r i j hx
    have hr := hev x _ hx
    obtain ⟨o', b, c, h1, h2, h3, hv⟩ := hr
    injection h with h
    subst h
    refine ⟨e x, ?_, hev x _ hx⟩
    simp only [hv]; rfl
  · cases h

theorem run_len {t e ty : TypeId} {a : Option Addr} {n c : Nat} (ht : P.underlying t = some (.slice e)) : (Builtin.len_ #[t] ty #[.slice a n c]).run P w = .ok (goInt n) w := by
  simp [Builtin.len_, run_underlying ht]

theorem effR_len {ev : Operand → Option TV} {e : Operand → Value} (hev : EvRel ρ H X w ev e)
    {o : Oper} {args : Array Operand} {argTypes : Array TypeId} {T : TV} (ho : o.op = .call { callee := .builtin .len, args, argTypes }) (h : effR P ev H o.op = some T) : ∃ v, (execOp e o).run P w = .ok (.value v) w ∧ T.rel ρ H X w v := by
  unfold execOp
  rw [ho] at h ⊢
  simp only [effR] at h
  obtain ⟨args⟩ := args
  obtain ⟨argTypes⟩ := argTypes
  split at h
  · rename_i x t hx ht
    simp only at hx ht
    subst hx ht
    have key : ∀ a n c el, sliceO P t = some el → e x = .slice a n c → T = .raw (.int .i64 n) → ∃ v, (do let d ← resolve e { callee := .builtin .len, args := ⟨[x]⟩, argTypes := ⟨[t]⟩ } o.type; invoke d.target d.args : Sem Next).run P w = .ok (.value v) w ∧ T.rel ρ H X w v := by
      intro a n c el hs hv hT
      subst hT
      refine ⟨.int .i64 n, ?_, rel_raw_mk rfl⟩
      simp only [resolve, invoke, builtin, Sem.run_bind, Sem.run_pure, Result.andThen_ok, List.map_toArray, List.map_cons, List.map_nil, hv, run_len (sliceO_spec hs)]
      rfl
    split at h
    · rename_i el xs hs hx
      injection h with h
      have hx := hev x _ hx
      generalize hvx : e x = vx at hx
      cases hx with
      | nil a c => exact key _ _ _ _ hs hvx h.symm
      | sl b off es cap xs f => exact key _ _ _ _ hs hvx h.symm
    · rename_i el a r off len hs hx
      injection h with h
      obtain ⟨o', g1, g2, g3⟩ := hev x _ hx
      rcases g3 with ⟨_, hv, h0, _⟩ | ⟨b, c, hρ, hv⟩
      · subst h0; exact key _ _ _ _ hs hv h.symm
      · exact key _ _ _ _ hs hv h.symm
    · rename_i el a n c hs hx
      injection h with h
      exact key _ _ _ _ hs (rel_raw (hev x _ hx)).1 h.symm
    · cases h
  · cases h
end
end Go.Proofs.YtennjcjjegbhgaaGreat

/-
  The abstract machine: struct literals; all operations that look at memory.
-/
namespace Go.Proofs.YtennjcjjegbhgaaGreat
open Go.RowKit

section
variable {P : Program} {ρ : Rho} {H : OH} {X : Nat → Prop} {w : World}

def arrRel (ρ : Rho) (H : OH) (X : Nat → Prop) (w : World) (cs : List AV) (vs : Array Value) : Prop :=
  vs.size = cs.length ∧ ∀ (j : Nat) x, cs[j]? = some x → ∃ u : Value, vs[j]? = some u ∧ u.oneCell' = true ∧ x.rel ρ H X w u

theorem cells_one {v : Value} (h : v.oneCell' = true) : v.cells = #[v] := by cases v <;> first | rfl | cases h

theorem cellsOf_rel {t : TV} {cs : List AV} {v : Value} (h : cellsOf t = some cs) (hr : t.rel ρ H X w v) : arrRel ρ H X w cs v.cells := by
  unfold cellsOf at h
  split at h
  · rename_i x
    injection h with h
    subst h
    have h1 : v.oneCell' = true := Rep.one hr
    rw [cells_one h1]
    refine ⟨rfl, fun j y hy => ?_⟩
    cases j with
    | zero => simp at hy; subst hy; exact ⟨v, rfl, h1, hr⟩
    | succ j => simp at hy
  · injection h with h
    subst h
    obtain ⟨vs, rfl, h1, h2⟩ := hr
    exact ⟨h1, h2⟩
  · cases h

theorem raws_rel {z : List Value} (h : z.all (·.oneCell') = true) : arrRel ρ H X w (z.map AV.raw) z.toArray := by
  simp only [List.all_eq_true] at h
  refine ⟨by simp, fun j x hx => ?_⟩
  rw [List.getElem?_map] at hx
  cases hj : z[j]? with
  | none => rw [hj] at hx; cases hx
  | some u =>
    rw [hj] at hx
    simp at hx
    subst hx
    have h1 := h u (List.mem_of_getElem? hj)
    exact ⟨u, by simpa using hj, h1, Rep.raw u h1⟩

theorem foldl_set (off : Nat) : ∀ (vs : List Value) (k : Nat) (cells : Array Value), off + k + vs.length ≤ cells.size →
    ((vs.zipIdx k).foldl (fun cs (c, j) => cs.setIfInBounds (off + j) c) cells).size = cells.size ∧
    ∀ j : Nat, ((vs.zipIdx k).foldl (fun cs (c, j) => cs.setIfInBounds (off + j) c) cells)[j]? = if off + k ≤ j ∧ j < off + k + vs.length then vs[j - (off + k)]? else cells[j]?
  | [], k, cells, _ => ⟨rfl, fun j => by rw [if_neg (by simp)]; rfl⟩
  | v :: vs, k, cells, h => by
    simp at h
    obtain ⟨h1, h2⟩ := foldl_set off vs (k + 1) (cells.setIfInBounds (off + k) v) (by simp; omega)
    simp only [List.zipIdx_cons, List.foldl_cons]
    refine ⟨by rw [h1]; simp, fun j => ?_⟩
    rw [h2]
    by_cases hj : j = off + k
    · subst hj
      rw [if_neg (by omega), if_pos (by simp)]
      rw [Array.getElem?_setIfInBounds_self_of_lt (by omega)]
      simp
    · by_cases hr : off + (k + 1) ≤ j ∧ j < off + (k + 1) + vs.length
      · rw [if_pos hr, if_pos (by simp; omega)]
        rw [show j - (off + k) = (j - (off + (k + 1))) + 1 by omega, List.getElem?_cons_succ]
      · rw [if_neg hr, if_neg (by simp; omega), Array.getElem?_setIfInBounds_ne (by omega)]

theorem seg_get {α : Type} {l ys : List α} {off : Nat} (h : off + ys.length ≤ l.length) (j : Nat) :
    (l.take off ++ ys ++ l.drop (off + ys.length))[j]? = if off ≤ j ∧ j < off + ys.length then ys[j - off]? else l[j]? := by
  have hlt : (l.take off).length = off := by simp; omega
  by_cases h1 : j < off
  · rw [if_neg (by omega), List.append_assoc, List.getElem?_append_left (by omega), List.getElem?_take, if_pos h1]
  · by_cases h2 : j < off + ys.length
    · rw [if_pos ⟨by omega, h2⟩, List.append_assoc, List.getElem?_append_right (by omega), hlt, List.getElem?_append_left (by omega)]
    · rw [if_neg (by omega), List.getElem?_append_right (by simp; omega), List.getElem?_drop]
      congr 1
      simp
      omega

theorem arr_fill {cs ys : List AV} {vs us : Array Value} {off : Nat} (h1 : arrRel ρ H X w cs vs) (h2 : arrRel ρ H X w ys us) (h : off + ys.length ≤ cs.length) :
    arrRel ρ H X w (cs.take off ++ ys ++ cs.drop (off + ys.length)) (us.zipIdx.foldl (fun cs (c, j) => cs.setIfInBounds (off + j) c) vs) := by
  obtain ⟨us⟩ := us
  have hul : us.length = ys.length := h2.1
  have hf := foldl_set off us 0 vs (by rw [h1.1]; simp; omega)
  have e : (us.toArray.zipIdx.foldl (fun cs (c, j) => cs.setIfInBounds (off + j) c) vs) = ((us.zipIdx 0).foldl (fun cs (c, j) => cs.setIfInBounds (off + j) c) vs) := by
    rw [← Array.foldl_toList]; simp
  rw [e]
  refine ⟨by rw [hf.1, h1.1]; simp; omega, fun j x hx => ?_⟩
  rw [seg_get h] at hx
  rw [hf.2 j]
  split at hx
  · rename_i hj
    rw [if_pos (by omega)]
    obtain ⟨u, h3, h4⟩ := h2.2 _ _ hx
    exact ⟨u, by simpa using h3, h4⟩
  · rename_i hj
    rw [if_neg (by omega)]
    exact h1.2 _ _ hx

theorem fill_sound {pl : List (Nat × Nat)} {ev : Operand → Option TV} {e : Operand → Value} (hev : EvRel ρ H X w ev e) : ∀ (parts : List (Nat × Operand)) (cs cs' : List AV) (vs : Array Value),
    arrRel ρ H X w cs vs → fillA pl ev cs parts = some cs' → ∃ vs', Instr.fill (pl.toArray[·]?) vs (parts.map fun (i, x) => (i, e x)) = some vs' ∧ arrRel ρ H X w cs' vs'
  | [], cs, cs', vs, h, hf => by simp only [fillA] at hf; injection hf with hf; subst hf; exact ⟨vs, rfl, h⟩
  | (f, x) :: rest, cs, cs', vs, h, hf => by
    simp only [fillA] at hf
    split at hf
    · rename_i off n ys hp hx
      obtain ⟨t, ht, hys⟩ := Option.bind_eq_some_iff.1 hx
      split at hf
      · rename_i hc
        obtain ⟨c1, c2⟩ := hc
        subst c1
        have hr := cellsOf_rel hys (hev x t ht)
        have h2 := arr_fill h hr c2
        obtain ⟨vs', h3, h4⟩ := fill_sound hev rest _ cs' _ h2 hf
        refine ⟨vs', ?_, h4⟩
        simp only [List.map_cons, Instr.fill]
        have hp' : pl.toArray[f]? = some (off, ys.length) := by simpa using hp
        rw [hp']
        simp only
        rw [if_neg]
        · exact h3
        · simp only [Bool.or_eq_true, decide_eq_true_eq]
          have := hr.1
          have := h.1
          omega
      · cases hf
    · cases hf

theorem effR_build {ev : Operand → Option TV} {e : Operand → Value} (hev : EvRel ρ H X w ev e)
    {o : Oper} {t : TypeId} {parts : Array (Nat × Operand)} {T : TV} (ho : o.op = .build t parts) (h : effR P ev H o.op = some T) : ∃ v, (execOp e o).run P w = .ok (.value v) w ∧ T.rel ρ H X w v := by
  unfold execOp
  rw [ho] at h ⊢
  simp only [effR] at h
  split at h
  · rename_i z pl hz hpl
    split at h
    · rename_i hall
      cases hf : fillA pl ev (z.map AV.raw) parts.toList with
      | none => rw [hf] at h; cases h
      | some cs =>
        rw [hf] at h
        simp at h
        subst h
        obtain ⟨vs, h1, h2, h3⟩ := fill_sound hev parts.toList _ cs _ (raws_rel hall) hf
        refine ⟨.agg vs, run_v (run_build w t _ vs ?_), vs, rfl, h2, h3⟩
        unfold Program.built
        unfold zeroO at hz
        cases hi : P.info? t with
        | none => rw [hi] at hz; cases hz
        | some it =>
          rw [hi] at hz
          unfold placesO at hpl
          cases hu : P.underlying t with
          | none => rw [hu] at hpl; cases hpl
          | some d =>
            rw [hu] at hpl
            cases d <;> simp at hpl
            rename_i fs
            cases hzz : it.zero with
            | none => simp [hzz] at hz
            | some zv =>
              simp [hzz] at hz
              subst hz
              simp only [hpl, hzz]
              rw [← h1]
              simp
    · cases h
  · cases h

theorem effR_sound {ev : Operand → Option TV} {e : Operand → Value} (hev : EvRel ρ H X w ev e) (hob : ∀ (a r : Nat) (o : OObj), (H a)[r]? = some o → objRel ρ H X w a r o)
    {o : Oper} {T : TV} (h : effR P ev H o.op = some T) : ∃ v, (execOp e o).run P w = .ok (.value v) w ∧ T.rel ρ H X w v := by
  cases ho : o.op
  case load t x => exact effR_load hev hob ho h
  case indexAddr t x i => exact effR_indexAddr hev hob ho h
  case fieldAddr t x f => exact effR_fieldAddr hev ho h
  case field t x f => exact effR_field hev ho h
  case slice t x lo hi mx => exact effR_slice hev hob ho h
  case build t parts => exact effR_build hev ho h
  case nilCheck x => exact effR_nilCheck hev ho h
  case call c =>
    obtain ⟨callee, args, argTypes⟩ := c
    cases callee with
    | builtin b =>
      cases b
      case len => exact effR_len hev ho h
      all_goals (rw [ho] at h; simp only [effR] at h; cases h)
    | value f => rw [ho] at h; simp only [effR] at h; cases h
    | invoke r m => rw [ho] at h; simp only [effR] at h; cases h
  all_goals (rw [ho] at h; simp only [effR] at h; cases h)
end
end Go.Proofs.YtennjcjjegbhgaaGreat

/-
  The abstract machine: the relation when memory grows; boxes, made slices, slice literals.
-/
namespace Go.Proofs.YtennjcjjegbhgaaGreat
open Go.RowKit

section
variable {P : Program} {w0 w w' : World} {O X : Nat → Prop} {ρ : Rho} {H : OH}

theorem Ext.stays {Y : Nat → Prop} (h : Ext w w') : Stays Y w w' := ⟨h.size, fun _ _ _ hc => h.cell hc⟩
theorem Keep.ext (h : Keep O w0 w) (e : Ext w w') : Keep O w0 w' :=
  ⟨e.os.trans h.os, e.tape.trans h.tape, e.output.trans h.output, Nat.le_trans h.size e.size, fun k hk ho => by
    rw [e.block k (Nat.lt_of_lt_of_le hk h.size)]; exact h.block k hk ho⟩
theorem Keep.refl (w : World) : Keep O w w := ⟨rfl, rfl, rfl, Nat.le_refl _, fun _ _ _ => rfl⟩

theorem AV.rel_ext {Y : Nat → Prop} {x : AV} {v : Value} (e : Ext w w') (h : x.rel ρ H Y w v) : x.rel ρ H Y w' v := by
  cases x with
  | p x => exact Rep.stays e.stays h
  | sl a r off len => exact h
  | ptr a r i j => exact h
  | junk => exact h
theorem arrRel_map {ρ' : Rho} {H' : OH} {Y Y' : Nat → Prop} {cs : List AV} {vs : Array Value} (h : arrRel ρ H Y w cs vs) (k : ∀ x v, x.rel ρ H Y w v → AV.rel ρ' H' Y' w' x v) : arrRel ρ' H' Y' w' cs vs :=
  ⟨h.1, fun j x hx => by obtain ⟨u, h1, h2, h3⟩ := h.2 j x hx; exact ⟨u, h1, h2, k _ _ h3⟩⟩
theorem aggRel_map {ρ' : Rho} {H' : OH} {Y Y' : Nat → Prop} {cs : List AV} {v : Value} (h : aggRel ρ H Y w cs v) (k : ∀ x v, x.rel ρ H Y w v → AV.rel ρ' H' Y' w' x v) : aggRel ρ' H' Y' w' cs v := by
  obtain ⟨vs, h1, h2, h3⟩ := h
  exact ⟨vs, h1, h2, fun j x hx => by obtain ⟨u, h1, h2, h3⟩ := h3 j x hx; exact ⟨u, h1, h2, k _ _ h3⟩⟩
theorem TV.rel_map {ρ' : Rho} {H' : OH} {Y Y' : Nat → Prop} {t : TV} {v : Value} (h : t.rel ρ H Y w v) (k : ∀ x v, x.rel ρ H Y w v → AV.rel ρ' H' Y' w' x v) : t.rel ρ' H' Y' w' v := by
  cases t with
  | one x => exact k _ _ h
  | agg cs => exact aggRel_map h k
  | tup ts =>
    obtain ⟨vs, h1, h2, h3⟩ := h
    refine ⟨vs, h1, h2, fun j b cs hx => ?_⟩
    obtain ⟨u, h1, h2⟩ := h3 j b cs hx
    refine ⟨u, h1, ?_⟩
    rcases h2 with ⟨h2, h3⟩ | ⟨h2, x, h3, h4⟩
    · exact .inl ⟨h2, aggRel_map h3 k⟩
    · exact .inr ⟨h2, x, h3, k _ _ h4⟩
theorem objRel_map {ρ' : Rho} {H' : OH} {Y Y' : Nat → Prop} {a r : Nat} {o : OObj} (h : objRel ρ H Y w a r o) (hρ : ρ' a r = ρ a r) (hb : ∀ b c, ρ a r = some (b, c) → w'.heap[b]? = w.heap[b]?) (k : ∀ x v, x.rel ρ H Y w v → AV.rel ρ' H' Y' w' x v) : objRel ρ' H' Y' w' a r o := by
  obtain ⟨h1, h2, h3⟩ := h
  refine ⟨h1, h2, ?_⟩
  rw [hρ]
  cases hr : ρ a r with
  | none => rw [hr] at h3; exact h3
  | some bc =>
    obtain ⟨b, c⟩ := bc
    rw [hr] at h3
    obtain ⟨cells, g1, g2, g3, g4, g5⟩ := h3
    refine ⟨cells, by rw [hb b c hr]; exact g1, g2, g3, g4, fun i e j x he hx => ?_⟩
    obtain ⟨v, p1, p2, p3⟩ := g5 i e j x he hx
    exact ⟨v, p1, p2, k _ _ p3⟩

theorem objRel_lt {Y : Nat → Prop} {a r : Nat} {o : OObj} {b c : Nat} (h : objRel ρ H Y w a r o) (hρ : ρ a r = some (b, c)) : b < w.heap.size := by
  obtain ⟨_, _, h3⟩ := h
  rw [hρ] at h3
  obtain ⟨cells, g1, _⟩ := h3
  exact (Array.getElem?_eq_some_iff.1 g1).1

def TmRel (X : Nat → Prop) (ρ : Rho) (s : AS) (a : Act) (w : World) : Prop := ∀ (t : Nat) x, s.tmps[t]? = some x → ∃ v : Value, a.tmps[t]? = some v ∧ x.rel ρ s.H (Xo X ρ s.H) w v

theorem ev_rel {s : AS} {a : Act} (h : TmRel X ρ s a w) : EvRel ρ s.H (Xo X ρ s.H) w s.ev a.eval := by
  intro x t hx
  cases x with
  | tmp k =>
    obtain ⟨v, h1, h2⟩ := h k t hx
    simp only [Act.eval, Array.getD_eq_getD_getElem?, h1, Option.getD_some]
    exact h2
  | const v => simp only [AS.ev] at hx; injection hx with hx; subst hx; exact ofConst_rel v
  | global g => simp only [AS.ev] at hx; injection hx with hx; subst hx; exact rel_raw_mk rfl
  | func f => simp only [AS.ev] at hx; injection hx with hx; subst hx; exact rel_raw_mk rfl

theorem put_size (a : Act) (d : Option Tmp) (v : Value) : (a.put d v).tmps.size = a.tmps.size := by cases d <;> simp [Act.put]
theorem put_len (s : AS) (d : Option Tmp) (t : TV) : (s.put d t).tmps.length = s.tmps.length := by cases d <;> simp [AS.put]
theorem put_H (s : AS) (d : Option Tmp) (t : TV) : (s.put d t).H = s.H := by cases d <;> rfl
theorem put_defers (a : Act) (d : Option Tmp) (v : Value) : (a.put d v).defers = a.defers := by cases d <;> rfl

theorem put_tm {s : AS} {a : Act} {d : Option Tmp} {t : TV} {v : Value} (hsz : a.tmps.size = s.tmps.length) (h : TmRel X ρ s a w) (hv : t.rel ρ s.H (Xo X ρ s.H) w v) : TmRel X ρ (s.put d t) (a.put d v) w := by
  intro k x hx
  rw [put_H]
  cases d with
  | none => exact h k x hx
  | some d =>
    simp only [AS.put] at hx
    simp only [Act.put]
    by_cases hk : d = k
    · subst hk
      rw [List.getElem?_set] at hx
      simp at hx
      obtain ⟨hl, hx⟩ := hx
      subst hx
      exact ⟨v, by rw [Array.getElem?_setIfInBounds_self_of_lt (by omega)], hv⟩
    · rw [List.getElem?_set_ne hk] at hx
      rw [Array.getElem?_setIfInBounds_ne hk]
      exact h k x hx

theorem rel_put {s : AS} {a : Act} {d : Option Tmp} {t : TV} {v : Value} (h1 : a.defers = []) (hsz : a.tmps.size = s.tmps.length) (hinv : Inv w0 O X s.H ρ w) (h : TmRel X ρ s a w) (hv : t.rel ρ s.H (Xo X ρ s.H) w v) : Rel w0 O X (s.put d t) (a.put d v) w := by
  refine ⟨by rw [put_defers]; exact h1, by rw [put_size, put_len]; exact hsz, ρ, by rw [put_H]; exact hinv, ?_⟩
  exact put_tm hsz h hv

/-- All stands when memory grows. -/
theorem Inv.grow (h : Inv w0 O X H ρ w) (e : Ext w w') : Inv w0 O X H ρ w' :=
  ⟨h.keep.ext e, fun a r o ho => objRel_map (h.objs a r o ho) rfl (fun b c hb => e.block b (objRel_lt (h.objs a r o ho) hb)) (fun _ _ hr => AV.rel_ext e hr), h.inj, h.old, fun b hb => Nat.lt_of_lt_of_le (h.bar b hb) e.size, h.self⟩
theorem TmRel.grow {s : AS} {a : Act} (h : TmRel X ρ s a w) (e : Ext w w') : TmRel X ρ s a w' := fun t x hx => by
  obtain ⟨v, h1, h2⟩ := h t x hx
  exact ⟨v, h1, TV.rel_map h2 (fun _ _ hr => AV.rel_ext e hr)⟩

def newρ (ρ : Rho) (d : Nat) (f : Nat → Option (Nat × Nat)) : Rho := fun a r => if a = d then f r else ρ a r

theorem updH_ne {H : OH} {d a : Nat} {F : List OObj} (h : a ≠ d) : updH H d F a = H a := if_neg h
theorem updH_eq {H : OH} {d : Nat} {F : List OObj} : updH H d F d = F := if_pos rfl
theorem newρ_ne {d a : Nat} {f : Nat → Option (Nat × Nat)} (h : a ≠ d) (r : Nat) : newρ ρ d f a r = ρ a r := if_neg h
theorem newρ_eq {d : Nat} {f : Nat → Option (Nat × Nat)} (r : Nat) : newρ ρ d f d r = f r := if_pos rfl

/-- What is known stays known when the new family d lies in new blocks. -/
theorem new_mono (hinv : Inv w0 O X H ρ w) (e : Ext w w') {d : Nat} {F : List OObj} (hd : H d = []) {f : Nat → Option (Nat × Nat)} (hnew : ∀ r b c, f r = some (b, c) → w.heap.size ≤ b) {x : AV} {v : Value}
    (h : x.rel ρ H (Xo X ρ H) w v) : x.rel (newρ ρ d f) (updH H d F) (Xo X (newρ ρ d f) (updH H d F)) w' v := by
  have hne : ∀ (a r : Nat) o, (H a)[r]? = some o → a ≠ d := fun a r o ho ha => by rw [ha, hd] at ho; simp at ho
  cases x with
  | p x =>
    refine Rep.stays e.stays (Rep.weaken (fun b hb hX => ?_) h)
    rcases hX with hX | ⟨a, r, o, c, h1, h2⟩
    · exact .inl hX
    · by_cases ha : a = d
      · subst ha
        rw [newρ_eq] at h2
        have := hnew r b c h2
        omega
      · rw [newρ_ne ha] at h2
        rw [updH_ne ha] at h1
        exact .inr ⟨a, r, o, c, h1, h2⟩
  | sl a r off len =>
    obtain ⟨o, h1, h2, h3⟩ := h
    have ha := hne a r o h1
    refine ⟨o, by rw [updH_ne ha]; exact h1, h2, ?_⟩
    rw [newρ_ne ha]; exact h3
  | ptr a r i j =>
    obtain ⟨o, b, c, h1, h2, h3⟩ := h
    have ha := hne a r o h1
    refine ⟨o, b, c, by rw [updH_ne ha]; exact h1, by rw [newρ_ne ha]; exact h2, h3⟩
  | junk => trivial

/-- A new family. -/
theorem new_rel {s : AS} {a : Act} (h1 : a.defers = []) (hsz : a.tmps.size = s.tmps.length) (hinv : Inv w0 O X s.H ρ w) (htm : TmRel X ρ s a w) (e : Ext w w') {d : Nat} {F : List OObj} (hd : s.H d = []) (f : Nat → Option (Nat × Nat))
    (hnew : ∀ r b c, f r = some (b, c) → w.heap.size ≤ b) (hinj : ∀ r r' b c c', f r = some (b, c) → f r' = some (b, c') → r = r')
    (hself : ∀ (r : Nat) o, F[r]? = some o → selfO d o) (hob : ∀ (r : Nat) o, F[r]? = some o → objRel (newρ ρ d f) (updH s.H d F) (Xo X (newρ ρ d f) (updH s.H d F)) w' d r o) {t : TV} {v : Value}
    (hv : t.rel (newρ ρ d f) (updH s.H d F) (Xo X (newρ ρ d f) (updH s.H d F)) w' v) : Rel w0 O X (AS.put ⟨s.tmps, updH s.H d F⟩ (some d) t) (a.put (some d) v) w' := by
  refine rel_put (ρ := newρ ρ d f) h1 hsz ?_ ?_ hv
  · refine ⟨hinv.keep.ext e, fun a r o ho => ?_, fun a r a' r' o o' b c c' ho ho' hr hr' => ?_, fun a r o b c ho hr => ?_, fun b hb => Nat.lt_of_lt_of_le (hinv.bar b hb) e.size, fun a r o ho => ?_⟩
    · by_cases ha : a = d
      · subst ha
        simp only [updH_eq] at ho
        exact hob r o ho
      · simp only [updH_ne ha] at ho
        exact objRel_map (hinv.objs a r o ho) (newρ_ne ha r) (fun b c hb => e.block b (objRel_lt (hinv.objs a r o ho) hb)) (fun _ _ hr => new_mono hinv e hd hnew hr)
    · by_cases ha : a = d
      · subst ha
        rw [newρ_eq] at hr
        by_cases ha' : a' = a
        · subst ha'
          rw [newρ_eq] at hr'
          exact ⟨rfl, hinj _ _ _ _ _ hr hr'⟩
        · rw [newρ_ne ha'] at hr'
          simp only [updH_ne ha'] at ho'
          have := objRel_lt (hinv.objs a' r' o' ho') hr'
          have := hnew _ _ _ hr
          omega
      · rw [newρ_ne ha] at hr
        simp only [updH_ne ha] at ho
        by_cases ha' : a' = d
        · subst ha'
          rw [newρ_eq] at hr'
          have := objRel_lt (hinv.objs a r o ho) hr
          have := hnew _ _ _ hr'
          omega
        · rw [newρ_ne ha'] at hr'
          simp only [updH_ne ha'] at ho'
          exact hinv.inj a r a' r' o o' b c c' ho ho' hr hr'
    · by_cases ha : a = d
      · subst ha
        rw [newρ_eq] at hr
        have := hnew _ _ _ hr
        have hk := hinv.keep.size
        exact ⟨.inl (by omega), fun hX => by have := hinv.bar b hX; omega⟩
      · rw [newρ_ne ha] at hr
        simp only [updH_ne ha] at ho
        exact hinv.old a r o b c ho hr
    · by_cases ha : a = d
      · subst ha
        simp only [updH_eq] at ho
        exact hself r o ho
      · simp only [updH_ne ha] at ho
        exact hinv.self a r o ho
  · intro k x hx
    obtain ⟨v, g1, g2⟩ := htm k x hx
    exact ⟨v, g1, TV.rel_map g2 (fun _ _ hr => new_mono hinv e hd hnew hr)⟩

/-- Pure cells are known whatever the own memory is. -/
theorem pure_rel {ρ' : Rho} {H' : OH} {Y : Nat → Prop} {x : AV} {v : Value} (hp : isPure x = true) (h : x.rel ρ H Y w v) : x.rel ρ' H' Y w v := by
  cases x <;> first | exact h | cases hp

theorem pure_self {a : Nat} {x : AV} (hp : isPure x = true) : selfAV a x := by
  cases x <;> first | trivial | cases hp

theorem alloc_ext (w : World) (o : Obj) : Ext w (w.alloc o) := (Ext.refl w).alloc o

/-- A new row of its own that holds these cells. -/
theorem new_row {s : AS} {a : Act} (h1 : a.defers = []) (hsz : a.tmps.size = s.tmps.length) (hinv : Inv w0 O X s.H ρ w) (htm : TmRel X ρ s a w) {d : Nat} {e : TypeId} {es c : Nat} {elems : List (List AV)} {cells : Array Value} (hd : s.H d = [])
    (hes : 0 < es) (hel : ∀ x ∈ elems, x.length = es) (hcs : cells.size = c * es) (hle : elems.length ≤ c) (hc : c ≤ 9223372036854775807) (hp : ∀ x ∈ elems, ∀ y ∈ x, isPure y = true)
    (hcell : ∀ (i : Nat) x (j : Nat) y, elems[i]? = some x → x[j]? = some y → ∃ v : Value, cells[i * es + j]? = some v ∧ v.oneCell' = true ∧ y.rel ρ s.H (Xo X ρ s.H) w v) {t : TV} {v : Value}
    (ht : (t = .one (.ptr d 0 0 0) ∧ 0 < elems.length ∧ v = .pointer (some ⟨w.heap.size, 0, none⟩)) ∨ (t = .one (.sl d 0 0 elems.length) ∧ v = .slice (some ⟨w.heap.size, 0, none⟩) elems.length c)) :
    Rel w0 O X (AS.put ⟨s.tmps, updH s.H d [⟨e, es, elems⟩]⟩ (some d) t) (a.put (some d) v) (w.alloc (.cells cells e)) := by
  have hnew : ∀ (r b c' : Nat), (if r = 0 then some (w.heap.size, c) else none) = some (b, c') → w.heap.size ≤ b := fun r b c' h => by
    split at h
    · injection h with h; injection h with h h'; omega
    · cases h
  have key : ∀ y v, isPure y = true → AV.rel ρ s.H (Xo X ρ s.H) w y v → AV.rel (newρ ρ d fun r => if r = 0 then some (w.heap.size, c) else none) (updH s.H d [⟨e, es, elems⟩]) (Xo X (newρ ρ d fun r => if r = 0 then some (w.heap.size, c) else none) (updH s.H d [⟨e, es, elems⟩])) (w.alloc (.cells cells e)) y v := fun y v _ h =>
    new_mono hinv (alloc_ext w _) hd (f := fun r => if r = 0 then some (w.heap.size, c) else none) hnew h
  refine new_rel h1 hsz hinv htm (alloc_ext w _) hd (fun r => if r = 0 then some (w.heap.size, c) else none) hnew (fun r r' b c c' h h' => ?_) (fun r o ho => ?_) (fun r o ho => ?_) ?_
  · split at h
    · split at h'
      · omega
      · cases h'
    · cases h
  · cases r with
    | succ r => simp at ho
    | zero =>
      simp at ho
      subst ho
      exact fun x hx y hy => pure_self (hp x hx y hy)
  · cases r with
    | succ r => simp at ho
    | zero =>
      simp at ho
      subst ho
      refine ⟨hel, hes, ?_⟩
      rw [newρ_eq]
      refine ⟨cells, heap_alloc_new w _, hcs, hle, hc, fun i x j y hx hy => ?_⟩
      obtain ⟨u, g1, g2, g3⟩ := hcell i x j y hx hy
      exact ⟨u, g1, g2, key y u (hp x (List.mem_of_getElem? hx) y (List.mem_of_getElem? hy)) g3⟩
  · rcases ht with ⟨rfl, hl, rfl⟩ | ⟨rfl, rfl⟩
    · exact ⟨⟨e, es, elems⟩, w.heap.size, c, by simp [updH_eq], by rw [newρ_eq]; rfl, hl, by simp⟩
    · exact ⟨⟨e, es, elems⟩, by simp [updH_eq], by simp, .inr ⟨w.heap.size, c, by rw [newρ_eq]; rfl, by simp⟩⟩
end
end Go.Proofs.YtennjcjjegbhgaaGreat

/-
  The abstract machine: boxes, new variables, made slices, slice literals.
-/
namespace Go.Proofs.YtennjcjjegbhgaaGreat
open Go.RowKit

section
variable {P : Program} {w0 w w' : World} {O X : Nat → Prop} {ρ : Rho} {H : OH}

theorem zeroO_spec {t : TypeId} {z : List Value} (h : zeroO P t = some z) : ∃ i zv, P.info? t = some i ∧ i.zero = some zv ∧ zv.cells.toList = z := by
  unfold zeroO at h
  cases hi : P.info? t with
  | none => rw [hi] at h; cases h
  | some i =>
    rw [hi] at h
    cases hz : i.zero with
    | none => simp [hz] at h
    | some zv => simp [hz] at h; exact ⟨i, zv, rfl, hz, h⟩
theorem byO_spec {t : TypeId} {n : Nat} (h : byO P t = some n) : ∃ i, P.info? t = some i ∧ i.bytes = n := by
  unfold byO at h
  cases hi : P.info? t with
  | none => rw [hi] at h; cases h
  | some i => rw [hi] at h; simp at h; exact ⟨i, rfl, h⟩
theorem run_zero {t : TypeId} {i : TypeInfo} {zv : Value} (h : P.info? t = some i) (hz : i.zero = some zv) : (zeroValue t).run P w = .ok zv w := by
  unfold zeroValue
  rw [Sem.run_bind, run_tI h, Result.andThen_ok, hz]
  rfl
theorem run_newVar (t : TypeId) (v : Value) : (newVar t v).run P w = .ok ⟨w.heap.size, 0, none⟩ (w.alloc (.cells v.cells t)) := rfl

theorem run_newRow (t : TypeId) (c : Array Value) : (newRow t c).run P w = .ok ⟨w.heap.size, 0, none⟩ (w.alloc (.cells c t)) := rfl
theorem run_box (t : TypeId) (v : Value) : (Instr.box t v).run P w = .ok (.pointer (some ⟨w.heap.size, 0, none⟩)) (w.alloc (.cells v.cells t)) := rfl
theorem run_allocT {t : TypeId} {i : TypeInfo} {zv : Value} (h : P.info? t = some i) (hz : i.zero = some zv) :
    (Instr.alloc t true (.tuple #[])).run P w = .ok (.pointer (some ⟨w.heap.size, 0, none⟩)) (w.alloc (.cells zv.cells t)) := by
  unfold Instr.alloc
  rw [Sem.run_bind, run_zero h hz, Result.andThen_ok]
  rfl

theorem run_askRoom (n : Nat) : (askRoom n).run P w = .ok () w := by
  unfold askRoom; split <;> rfl

def madeZ (z : List Value) (n : Nat) : Array Value := (Array.range n).map fun k => z.toArray[k % z.toArray.size]!
theorem madeZ_size (z : List Value) (n : Nat) : (madeZ z n).size = n := by simp [madeZ]
theorem madeZ_get {z : List Value} {n i j : Nat} {v : Value} (hj : z[j]? = some v) (hn : i * z.length + j < n) : (madeZ z n)[i * z.length + j]? = some v := by
  have hl : j < z.length := (List.getElem?_eq_some_iff.1 hj).1
  unfold madeZ
  rw [Array.getElem?_map, Array.getElem?_range, if_pos hn]
  simp only [Option.map_some, List.size_toArray]
  rw [Nat.mul_comm, Nat.mul_add_mod, Nat.mod_eq_of_lt hl]
  rw [(List.getElem?_eq_some_iff.1 hj).2.symm]
  simp [hl]

theorem run_makeZ {t e : TypeId} {i : TypeInfo} {zv : Value} {z : List Value} (ht : P.underlying t = some (.slice e)) (hi : P.info? e = some i) (hz : i.zero = some zv) (hzc : zv.cells.toList = z) (hsz : z.length = i.size) (kl kc : IntKind) {n m : Int}
    (h0 : 0 ≤ n) (hnm : n ≤ m) (h63 : m ≤ 9223372036854775807) (hb : (i.bytes : Int) * m ≤ 281474976710656) :
    (Instr.makeSlice t (.int kl n) (.int kc m)).run P w = .ok (.slice (some ⟨w.heap.size, 0, none⟩) n.toNat m.toNat) (w.alloc (.cells (madeZ z (m.toNat * z.length)) e)) := by
  have w1 : IntKind.i64.wrap n = n := IntWalk.i64_in _ (by omega)
  have w2 : IntKind.i64.wrap m = m := IntWalk.i64_in _ (by omega)
  have hs : (sizeOf e).run P w = .ok i.size w := by unfold sizeOf; rw [Sem.run_bind, run_tI hi]; rfl
  have t1 : decide (m < 0) = false := by simp; omega
  have t2 : decide ((i.bytes : Int) * m > 2 ^ 48) = false := by simp; omega
  have t3 : decide (n < 0) = false := by simp; omega
  have t4 : decide (n > m) = false := by simp; omega
  unfold Instr.makeSlice
  simp only [Sem.run_bind, run_underlying ht, Result.andThen_ok, asInt, asIntOf, Sem.run_pure, run_tI hi, w1, w2, t1, t2, t3, t4, Bool.or_false, Bool.false_eq_true, if_false, run_askRoom, hs]
  by_cases hn0 : m.toNat * i.size = 0
  · rw [if_pos hn0, Sem.run_bind]
    show Result.andThen (.ok #[] w) _ = _
    simp only [Result.andThen_ok, Sem.run_bind, run_newRow, Sem.run_pure]
    rw [hsz, hn0, show madeZ z 0 = #[] by simp [madeZ], show (Array.map (fun x => (#[] : Array Value)[x % (#[] : Array Value).size]!) (Array.range 0)) = #[] by simp]
  · rw [if_neg hn0]
    simp only [Sem.run_bind, run_zero hi hz, Result.andThen_ok, Sem.run_pure, run_newRow]
    rw [hsz, ← hzc]
    rfl

theorem lit_sound {ev : Operand → Option TV} {e : Operand → Value} {Y : Nat → Prop} (hev : EvRel ρ H Y w ev e) {sz : Nat} : ∀ (parts : List (Nat × Operand)) (i0 : Nat) (l : List (List AV)) (cells : Array Value),
    litA ev sz i0 parts = some l → (i0 + l.length) * sz ≤ cells.size →
    ∃ cells', Instr.fill (fun i => some (i * sz, sz)) cells (parts.map fun (i, x) => (i, e x)) = some cells' ∧ cells'.size = cells.size ∧ (∀ j : Nat, j < i0 * sz → cells'[j]? = cells[j]?) ∧
      (∀ x ∈ l, x.length = sz ∧ ∀ y ∈ x, isPure y = true) ∧
      ∀ (i : Nat) x (j : Nat) y, l[i]? = some x → x[j]? = some y → ∃ u : Value, cells'[(i0 + i) * sz + j]? = some u ∧ u.oneCell' = true ∧ y.rel ρ H Y w u
  | [], i0, l, cells, h, _ => by
    simp only [litA] at h
    injection h with h
    subst h
    exact ⟨cells, rfl, rfl, fun _ _ => rfl, fun x hx => (by simp at hx), fun i x j y hx => (by simp at hx)⟩
  | (k, x) :: rest, i0, l, cells, h, hsz => by
    simp only [litA] at h
    split at h
    · rename_i cs l' hcs hl'
      split at h
      · rename_i hc
        obtain ⟨c1, c2, c3⟩ := hc
        injection h with h
        subst h
        subst c1
        obtain ⟨t, ht, hys⟩ := Option.bind_eq_some_iff.1 hcs
        obtain ⟨r1, r2⟩ := cellsOf_rel hys (hev x t ht)
        simp only [List.length_cons] at hsz
        have hms : (k + (l'.length + 1)) * sz = k * sz + (l'.length * sz + sz) := by rw [Nat.add_mul, Nat.add_mul, Nat.one_mul]
        generalize hvc : (e x).cells = vc at *
        obtain ⟨vc⟩ := vc
        have r1' : vc.length = cs.length := r1
        obtain ⟨f1, f2⟩ := foldl_set (k * sz) vc 0 cells (by omega)
        have e1 : (vc.toArray.zipIdx.foldl (fun cs (c, j) => cs.setIfInBounds (k * sz + j) c) cells) = ((vc.zipIdx 0).foldl (fun cs (c, j) => cs.setIfInBounds (k * sz + j) c) cells) := by
          rw [← Array.foldl_toList]; simp
        have hk1 : (k + 1) * sz = k * sz + sz := by rw [Nat.add_mul, Nat.one_mul]
        obtain ⟨cells', g1, g2, g3, g4, g5⟩ := lit_sound hev rest (k + 1) l' (cells := (vc.zipIdx 0).foldl (fun cs (c, j) => cs.setIfInBounds (k * sz + j) c) cells) hl' (by rw [f1, Nat.add_mul]; omega)
        refine ⟨cells', ?_, by rw [g2, f1], fun j hj => ?_, fun y hy => ?_, fun i y j u hy hu => ?_⟩
        · simp only [List.map_cons, Instr.fill, hvc]
          rw [if_neg (by simp; omega), e1]
          exact g1
        · rw [g3 j (by omega), f2 j, if_neg (by omega)]
        · rcases List.mem_cons.1 hy with rfl | hy
          · exact ⟨c2, fun z hz => by simp only [List.all_eq_true] at c3; exact c3 z hz⟩
          · exact g4 y hy
        · cases i with
          | zero =>
            simp at hy
            subst hy
            have hj : j < cs.length := (List.getElem?_eq_some_iff.1 hu).1
            obtain ⟨v, v1, v2⟩ := r2 j u hu
            refine ⟨v, ?_, v2⟩
            rw [Nat.add_zero, g3 _ (by omega), f2, if_pos (by omega)]
            rw [show k * sz + j - (k * sz + 0) = j by omega]
            simpa using v1
          | succ i =>
            simp at hy
            obtain ⟨v, v1, v2⟩ := g5 i y j u hy hu
            exact ⟨v, by rw [show k + (i + 1) = k + 1 + i by omega]; exact v1, v2⟩
      · cases h
    · cases h

/-- What an operation that makes memory leaves. -/
def ARes (s : AS) (d : Nat) (t : TV) (F : List OObj) : AS := if F.isEmpty then s.put (some d) t else AS.put ⟨s.tmps, updH s.H d F⟩ (some d) t

theorem effA_box {items : List (Item P)} {ow : List Nat} {i d : Nat} {s : AS} {a : Act} {o : Oper} {t : TV} {F : List OObj} (h1 : a.defers = []) (hsz : a.tmps.size = s.tmps.length) (hinv : Inv w0 O X s.H ρ w) (htm : TmRel X ρ s a w)
    {e : TypeId} {x : Operand} (ho : o.op = .box e x) (h : effA P items ow i d s.ev s.H o.op = some (t, F)) (hd : s.H d = []) :
    ∃ v w', (execOp a.eval o).run P w = .ok (.value v) w' ∧ Rel w0 O X (ARes s d t F) (a.put (some d) v) w' := by
  unfold execOp
  rw [ho] at h ⊢
  simp only [effA] at h
  split at h
  · rename_i cs hcs
    split at h
    · rename_i hc
      injection h with h
      injection h with ht hF
      subst ht hF
      obtain ⟨t, ht, hys⟩ := Option.bind_eq_some_iff.1 hcs
      obtain ⟨r1, r2⟩ := cellsOf_rel hys (ev_rel htm x t ht)
      refine ⟨_, _, run_v (run_box e (a.eval x)), ?_⟩
      refine new_row h1 hsz hinv htm (c := 1) hd hc.2 (by simp) (by simp [r1]) (by simp) (by omega) (fun y hy z hz => ?_) (fun k y j z hy hz => ?_) (.inl ⟨rfl, by simp, rfl⟩)
      · simp at hy
        subst hy
        have := hc.1
        simp only [List.all_eq_true] at this
        exact this z hz
      · cases k with
        | succ k => simp at hy
        | zero =>
          simp at hy
          subst hy
          rw [Nat.zero_mul, Nat.zero_add]
          exact r2 j z hz
    · cases h
  · cases h

theorem effA_alloc {items : List (Item P)} {ow : List Nat} {i d : Nat} {s : AS} {a : Act} {o : Oper} {t : TV} {F : List OObj} (h1 : a.defers = []) (hsz : a.tmps.size = s.tmps.length) (hinv : Inv w0 O X s.H ρ w) (htm : TmRel X ρ s a w)
    {e : TypeId} (ho : o.op = .alloc e) (h : effA P items ow i d s.ev s.H o.op = some (t, F)) (hd : s.H d = []) :
    ∃ v w', (execOp a.eval o).run P w = .ok (.value v) w' ∧ Rel w0 O X (ARes s d t F) (a.put (some d) v) w' := by
  unfold execOp
  rw [ho] at h ⊢
  simp only [effA] at h
  split at h
  · rename_i z hz
    split at h
    · rename_i hc
      injection h with h
      injection h with ht hF
      subst ht hF
      obtain ⟨i, zv, hi, hzv, hzc⟩ := zeroO_spec hz
      obtain ⟨r1, r2⟩ := raws_rel (ρ := ρ) (H := s.H) (X := Xo X ρ s.H) (w := w) hc.1
      refine ⟨_, _, run_v (run_allocT hi hzv), ?_⟩
      have e1 : z.toArray = zv.cells := by rw [← hzc]
      rw [e1] at r1 r2
      refine new_row h1 hsz hinv htm (c := 1) hd hc.2 (by simp) (by rw [← e1]; simp) (by simp) (by omega) (fun y hy z' hz' => ?_) (fun k y j z' hy hz' => ?_) (.inl ⟨rfl, by simp, rfl⟩)
      · simp at hy
        subst hy
        simp at hz'
        obtain ⟨u, _, rfl⟩ := hz'
        rfl
      · cases k with
        | succ k => simp at hy
        | zero =>
          simp at hy
          subst hy
          rw [Nat.zero_mul, Nat.zero_add]
          exact r2 j z' hz'
    · cases h
  · cases h

theorem effA_make {items : List (Item P)} {ow : List Nat} {i d : Nat} {s : AS} {a : Act} {o : Oper} {t : TV} {F : List OObj} (h1 : a.defers = []) (hsz : a.tmps.size = s.tmps.length) (hinv : Inv w0 O X s.H ρ w) (htm : TmRel X ρ s a w)
    {ty : TypeId} {l c : Operand} (ho : o.op = .makeSlice ty l c) (h : effA P items ow i d s.ev s.H o.op = some (t, F)) (hd : s.H d = []) :
    ∃ v w', (execOp a.eval o).run P w = .ok (.value v) w' ∧ Rel w0 O X (ARes s d t F) (a.put (some d) v) w' := by
  unfold execOp
  rw [ho] at h ⊢
  simp only [effA] at h
  split at h
  · rename_i k1 n k2 m e hl hc hs
    split at h
    · rename_i z sz by_ hz hszo hby
      split at h
      · rename_i hcond
        obtain ⟨c1, c2, c3, c4, c5, c6, c7⟩ := hcond
        injection h with h
        injection h with ht hF
        subst ht hF
        obtain ⟨i, zv, hi, hzv, hzc⟩ := zeroO_spec hz
        obtain ⟨i', hi', hsz'⟩ := szO_spec hszo
        rw [hi] at hi'; injection hi' with hi'; subst hi'
        obtain ⟨i', hi', hby'⟩ := byO_spec hby
        rw [hi] at hi'; injection hi' with hi'; subst hi'
        have hrun := run_makeZ (P := P) (w := w) (sliceO_spec hs) hi hzv hzc (by omega) k1 k2 c1 c2 c3 (by rw [hby']; exact c4)
        have hn := (rel_raw (ev_rel htm l _ hl)).1
        have hm := (rel_raw (ev_rel htm c _ hc)).1
        refine ⟨_, _, run_v (by rw [hn, hm]; exact hrun), ?_⟩
        simp only [List.all_eq_true] at c7
        have hrep : ∀ (k : Nat) x, (List.replicate n.toNat (z.map AV.raw))[k]? = some x → k < n.toNat ∧ x = z.map AV.raw := fun k x hx => by
          rw [List.getElem?_replicate] at hx
          split at hx
          · injection hx with hx; exact ⟨by assumption, hx.symm⟩
          · cases hx
        have hlen : (List.replicate n.toNat (z.map AV.raw)).length = n.toNat := by simp
        have := new_row h1 hsz hinv htm (c := m.toNat) (e := e) (es := sz) (elems := List.replicate n.toNat (z.map AV.raw)) (cells := madeZ z (m.toNat * z.length)) hd c6 (by simp [List.mem_replicate]; omega) (by rw [madeZ_size, c5]) (by simp; omega) (by omega)
          (fun y hy z' hz' => by simp [List.mem_replicate] at hy; rw [hy.2] at hz'; simp at hz'; obtain ⟨u, _, rfl⟩ := hz'; rfl)
          (fun k y j z' hy hz' => by
            obtain ⟨hk, rfl⟩ := hrep k y hy
            rw [List.getElem?_map] at hz'
            cases hj : z[j]? with
            | none => rw [hj] at hz'; cases hz'
            | some u =>
              rw [hj] at hz'
              simp at hz'
              subst hz'
              have h1 := c7 u (List.mem_of_getElem? hj)
              have hjl : j < z.length := (List.getElem?_eq_some_iff.1 hj).1
              have hlt : k * z.length + j < m.toNat * z.length := by
                have : (k + 1) * z.length ≤ m.toNat * z.length := Nat.mul_le_mul_right _ (by omega)
                rw [Nat.add_mul, Nat.one_mul] at this
                omega
              refine ⟨u, ?_, h1, Rep.raw u h1⟩
              rw [← c5]
              exact madeZ_get hj hlt)
          (t := .one (.sl d 0 0 n.toNat)) (v := .slice (some ⟨w.heap.size, 0, none⟩) n.toNat m.toNat) (.inr ⟨by rw [hlen], by rw [hlen]⟩)
        exact this
      · cases h
    · cases h
  · cases h

theorem effA_lit {items : List (Item P)} {ow : List Nat} {i d : Nat} {s : AS} {a : Act} {o : Oper} {t : TV} {F : List OObj} (h1 : a.defers = []) (hsz : a.tmps.size = s.tmps.length) (hinv : Inv w0 O X s.H ρ w) (htm : TmRel X ρ s a w)
    {ty : TypeId} {n : Nat} {parts : Array (Nat × Operand)} (ho : o.op = .buildSlice ty n parts) (h : effA P items ow i d s.ev s.H o.op = some (t, F)) (hd : F ≠ [] → s.H d = []) :
    ∃ v w', (execOp a.eval o).run P w = .ok (.value v) w' ∧ Rel w0 O X (ARes s d t F) (a.put (some d) v) w' := by
  unfold execOp
  rw [ho] at h ⊢
  simp only [effA] at h
  split at h
  · rename_i e hs
    split at h
    · rename_i z sz hz hszo
      split at h
      · rename_i l hlit
        split at h
        · rename_i hcond
          obtain ⟨c1, c2, c3, c4⟩ := hcond
          obtain ⟨i, zv, hi, hzv, hzc⟩ := zeroO_spec hz
          have hz0 : ((Array.range (n * sz)).map (zv.cells[· % zv.cells.size]!)) = madeZ z (n * sz) := by unfold madeZ; rw [← hzc]
          obtain ⟨cells, g1, g2, g3, g4, g5⟩ := lit_sound (ev_rel htm) parts.toList 0 l (madeZ z (n * sz)) hlit (by rw [madeZ_size, c1]; simp)
          have hrun : (Instr.buildSlice ty n (parts.map fun (i, x) => (i, a.eval x))).run P w = .ok (.slice (some ⟨w.heap.size, 0, none⟩) n n) (w.alloc (.cells cells e)) := by
            have g1' : Instr.fill (fun i => some (i * sz, sz)) (madeZ z (n * sz)) (parts.map fun (i, x) => (i, a.eval x)).toList = some cells := by rw [← g1]; simp
            unfold Instr.buildSlice
            simp only [Sem.run_bind, run_underlying (sliceO_spec hs), Result.andThen_ok, run_szO hszo]
            rw [if_neg (by omega)]
            by_cases hn0 : n * sz = 0
            · rw [if_pos hn0]
              have hm0 : madeZ z (n * sz) = #[] := by rw [hn0]; simp [madeZ]
              rw [hm0] at g1'
              rw [Sem.run_bind]
              show Result.andThen (.ok #[] w) _ = _
              rw [Result.andThen_ok]
              rw [show (Array.map (fun x => (#[] : Array Value)[x % (#[] : Array Value).size]!) (Array.range (n * sz))) = #[] by rw [hn0]; simp, g1']
              rfl
            · rw [if_neg hn0]
              simp only [Sem.run_bind, run_zero hi hzv, Sem.run_pure, Result.andThen_ok]
              rw [hz0, g1']
              rfl
          split at h
          · injection h with h
            injection h with ht hF
            subst ht hF
            refine ⟨_, _, run_v hrun, ?_⟩
            have := new_row h1 hsz hinv htm (c := n) (e := e) (es := sz) (elems := l) (cells := cells) (hd (by simp)) c4 (fun x hx => (g4 x hx).1) (by rw [g2, madeZ_size]) (by omega)
              (by have : n * 1 ≤ n * sz := Nat.mul_le_mul_left _ c4; omega) (fun x hx => (g4 x hx).2)
              (fun i x j y hx hy => by have := g5 i x j y hx hy; rwa [Nat.zero_add] at this)
              (t := .one (.sl d 0 0 n)) (v := .slice (some ⟨w.heap.size, 0, none⟩) n n) (.inr ⟨by rw [c1], by rw [c1]⟩)
            exact this
          · injection h with h
            injection h with ht hF
            subst ht hF
            refine ⟨_, _, run_v hrun, ?_⟩
            refine rel_put h1 hsz (hinv.grow (alloc_ext w _)) (htm.grow (alloc_ext w _)) ?_
            show Rep _ _ _ _
            have hl : (l.map (List.map unP)).length = n := by simp [c1]
            have hcell : ∀ (i : Nat) x (j : Nat) y, (l.map (List.map unP))[i]? = some x → x[j]? = some y → ∃ u : Value, cells[i * sz + j]? = some u ∧ Rep (Xo X ρ s.H) w y u := fun i x j y hx hy => by
              rw [List.getElem?_map] at hx
              cases hx' : l[i]? with
              | none => rw [hx'] at hx; cases hx
              | some x' =>
                rw [hx'] at hx
                simp at hx
                subst hx
                rw [List.getElem?_map] at hy
                cases hy' : x'[j]? with
                | none => rw [hy'] at hy; cases hy
                | some y' =>
                  rw [hy'] at hy
                  simp at hy
                  subst hy
                  obtain ⟨u, u1, u2, u3⟩ := g5 i x' j y' hx' hy'
                  have hp := (g4 x' (List.mem_of_getElem? hx')).2 y' (List.mem_of_getElem? hy')
                  refine ⟨u, by rwa [Nat.zero_add] at u1, ?_⟩
                  cases y' <;> first | exact u3 | cases hp
            have hf : ∃ f : Nat → Nat → Value, ∀ (i : Nat) x (j : Nat) y, (l.map (List.map unP))[i]? = some x → x[j]? = some y → cells[i * sz + j]? = some (f i j) ∧ Rep (Xo X ρ s.H) w y (f i j) := by
              refine ⟨fun i j => (cells[i * sz + j]?).getD undef, fun i x j y hx hy => ?_⟩
              obtain ⟨u, u1, u2⟩ := hcell i x j y hx hy
              simp only [u1, Option.getD_some]; exact ⟨trivial, u2⟩
            obtain ⟨f, hf⟩ := hf
            have hnn : n ≤ 16777216 := by have : n * 1 ≤ n * sz := Nat.mul_le_mul_left _ c4; omega
            have := Rep.sl (X := Xo X ρ s.H) (w := w.alloc (.cells cells e)) w.heap.size 0 sz n (l.map (List.map unP)) f (fun hX => by
              rcases hX with hX | ⟨a', r, o', c, q1, q2⟩
              · have := hinv.bar _ hX; omega
              · have := objRel_lt (hinv.objs a' r o' q1) q2; omega) (by rw [World.size_alloc]; omega) (fun x hx => by simp at hx; obtain ⟨x', hx', rfl⟩ := hx; simp; exact (g4 x' hx').1) (by omega) (by omega)
              (fun i x j y hx hy => by
                rw [cell_of_row _ w.heap.size (0 + i * sz + j) cells e (0, 0) (heap_alloc_new w _), Nat.zero_add]
                exact (hf i x j y hx hy).1)
              (fun i x j y hx hy => Rep.stays (alloc_ext w _).stays (hf i x j y hx hy).2)
            rw [hl] at this
            exact this
        · cases h
      · cases h
    · cases h
  · cases h
end
end Go.Proofs.YtennjcjjegbhgaaGreat

/-
  The abstract machine: stores into the call's own memory.
-/
namespace Go.Proofs.YtennjcjjegbhgaaGreat
open Go.RowKit

section
variable {P : Program} {w0 w w' : World} {O X : Nat → Prop} {ρ : Rho} {H : OH}

/-- Nothing but block b has turned. -/
structure But (b : Nat) (w w' : World) : Prop where
  os : w'.os = w.os
  tape : w'.tape = w.tape
  output : w'.output = w.output
  size : w.heap.size ≤ w'.heap.size
  block : ∀ k, k < w.heap.size → k ≠ b → w'.heap[k]? = w.heap[k]?

theorem But.setRow (w : World) (b : Nat) (cs : Array Value) : But b w (w.setRow b cs) :=
  ⟨rfl, rfl, rfl, by simp [World.setRow], fun k hk hb => by simp [World.setRow, Array.getElem?_modify, Ne.symm hb]⟩

theorem Keep.but {b : Nat} (h : Keep O w0 w) (e : But b w w') (hb : w0.heap.size ≤ b ∨ O b) : Keep O w0 w' :=
  ⟨e.os.trans h.os, e.tape.trans h.tape, e.output.trans h.output, Nat.le_trans h.size e.size, fun k hk ho => by
    rw [e.block k (Nat.lt_of_lt_of_le hk h.size) (by rintro rfl; rcases hb with hb | hb; · omega
                                                     · exact ho hb)]
    exact h.block k hk ho⟩

/-- What is known stays known when own block b is written: refs are alive and of the same size. -/
theorem but_mono {ρ' : Rho} {H' : OH} {b : Nat} (hX : Xo X ρ H b) (e : But b w w')
    (hlive : ∀ (a r : Nat) o, (H a)[r]? = some o → ∃ o', (H' a)[r]? = some o' ∧ o'.es = o.es ∧ o.elems.length ≤ o'.elems.length ∧ ρ' a r = ρ a r)
    (hback : ∀ (a r : Nat) o b' c, (H' a)[r]? = some o → ρ' a r = some (b', c) → b' < w.heap.size → Xo X ρ H b') {x : AV} {v : Value}
    (h : x.rel ρ H (Xo X ρ H) w v) : x.rel ρ' H' (Xo X ρ' H') w' v := by
  cases x with
  | p x =>
    refine Rep.stays ⟨e.size, fun p u hp hu => ?_⟩ (Rep.weaken (fun b' hb' h' => ?_) h)
    · have hlt := cell_lt hu
      by_cases hpb : p.block = b
      · exfalso
        apply hp
        obtain hX | ⟨a, r, o, c, h1, h2⟩ := hX
        · exact .inl (hpb ▸ hX)
        · obtain ⟨o', g1, g2, g3, g4⟩ := hlive a r o h1
          exact .inr ⟨a, r, o', c, g1, by rw [g4, hpb]; exact h2⟩
      · unfold World.cell? at hu ⊢
        rw [e.block _ hlt hpb]; exact hu
    · rcases h' with h' | ⟨a, r, o, c, h1, h2⟩
      · exact .inl h'
      · exact hback a r o b' c h1 h2 hb'
  | sl a r off len =>
    obtain ⟨o, h1, h2, h3⟩ := h
    obtain ⟨o', g1, g2, g3, g4⟩ := hlive a r o h1
    refine ⟨o', g1, by omega, ?_⟩
    rw [g4, g2]; exact h3
  | ptr a r i j =>
    obtain ⟨o, b', c, h1, h2, h3, h4⟩ := h
    obtain ⟨o', g1, g2, g3, g4⟩ := hlive a r o h1
    exact ⟨o', b', c, g1, by rw [g4]; exact h2, by omega, by rw [g2]; exact h4⟩
  | junk => trivial

theorem set_get {l : List OObj} {r r' : Nat} {o o' : OObj} (h : l[r]? = some o) : (l.set r o')[r']? = if r' = r then some o' else l[r']? := by
  by_cases hr : r' = r
  · subst hr; rw [if_pos rfl, List.getElem?_set]; simp [(List.getElem?_eq_some_iff.1 h).1]
  · rw [if_neg hr, List.getElem?_set_ne (Ne.symm hr)]

theorem putCells_len {e cs : List AV} {j : Nat} (h : j + cs.length ≤ e.length) : (putCells e j cs).length = e.length := by
  simp [putCells]; omega
theorem putCells_get {e cs : List AV} {j : Nat} (h : j + cs.length ≤ e.length) (k : Nat) : (putCells e j cs)[k]? = if j ≤ k ∧ k < j + cs.length then cs[k - j]? else e[k]? := seg_get h k

theorem apart_cells {i i' es j j' n : Nat} (h : i' ≠ i) (hj : j + n ≤ es) (hj' : j' < es) : ¬ (i * es + j ≤ i' * es + j' ∧ i' * es + j' < i * es + j + n) := by
  rcases Nat.lt_or_gt_of_ne h with h | h
  · have : (i' + 1) * es ≤ i * es := Nat.mul_le_mul_right _ h
    rw [Nat.add_mul, Nat.one_mul] at this
    omega
  · have : (i + 1) * es ≤ i' * es := Nat.mul_le_mul_right _ h
    rw [Nat.add_mul, Nat.one_mul] at this
    omega

/-- Store of cells into an element of an own row. -/
theorem store_rel {s : AS} {act : Act} (h1 : act.defers = []) (hsz : act.tmps.size = s.tmps.length) (hinv : Inv w0 O X s.H ρ w) (htm : TmRel X ρ s act w) {a r i j b c : Nat} {o : OObj} {e cs : List AV} {vs : List Value}
    (ho : (s.H a)[r]? = some o) (hρ : ρ a r = some (b, c)) (he : o.elems[i]? = some e) (hj : j + cs.length ≤ e.length) (hvl : vs.length = cs.length)
    (hrel : ∀ (k : Nat) x, cs[k]? = some x → ∃ u : Value, vs[k]? = some u ∧ u.oneCell' = true ∧ x.rel ρ s.H (Xo X ρ s.H) w u) (hself : ∀ x ∈ cs, selfAV a x) :
    ∃ cells, w.heap[b]? = some (.cells cells o.ty (0, 0)) ∧ i * o.es + j + vs.length ≤ cells.size ∧
      Inv w0 O X (updH s.H a ((s.H a).set r { o with elems := o.elems.set i (putCells e j cs) })) ρ (w.setRow b (cells.toList.take (i * o.es + j) ++ vs ++ cells.toList.drop (i * o.es + j + vs.length)).toArray) ∧
      TmRel X ρ ⟨s.tmps, updH s.H a ((s.H a).set r { o with elems := o.elems.set i (putCells e j cs) })⟩ act (w.setRow b (cells.toList.take (i * o.es + j) ++ vs ++ cells.toList.drop (i * o.es + j + vs.length)).toArray) := by
  have hobj := hinv.objs a r o ho
  obtain ⟨q1, q2, q3⟩ := hobj
  rw [hρ] at q3
  obtain ⟨cells, p1, p2, p3, p4, p5⟩ := q3
  have hel : e.length = o.es := q1 e (List.mem_of_getElem? he)
  have hi : i < o.elems.length := (List.getElem?_eq_some_iff.1 he).1
  have hfit : i * o.es + j + vs.length ≤ cells.size := by
    have : (i + 1) * o.es ≤ c * o.es := Nat.mul_le_mul_right _ (by omega)
    rw [Nat.add_mul, Nat.one_mul] at this
    omega
  refine ⟨cells, p1, hfit, ?_⟩
  have hXb : Xo X ρ s.H b := .inr ⟨a, r, o, c, ho, hρ⟩
  generalize hcl : (cells.toList.take (i * o.es + j) ++ vs ++ cells.toList.drop (i * o.es + j + vs.length)) = cl
  have hcget : ∀ k : Nat, cl[k]? = if i * o.es + j ≤ k ∧ k < i * o.es + j + vs.length then vs[k - (i * o.es + j)]? else cells[k]? := fun k => by
    rw [← hcl, seg_get (by simpa using hfit)]; simp
  have hclen : cl.length = cells.size := by rw [← hcl]; simp; omega
  have e0 := But.setRow w b cl.toArray
  generalize hH' : updH s.H a ((s.H a).set r { o with elems := o.elems.set i (putCells e j cs) }) = H'
  have hH'a : ∀ r', (H' a)[r']? = if r' = r then some { o with elems := o.elems.set i (putCells e j cs) } else (s.H a)[r']? := fun r' => by rw [← hH', updH_eq]; exact set_get ho
  have hH'n : ∀ a', a' ≠ a → H' a' = s.H a' := fun a' ha => by rw [← hH', updH_ne ha]
  have hlive : ∀ (a' r' : Nat) o1, (s.H a')[r']? = some o1 → ∃ o', (H' a')[r']? = some o' ∧ o'.es = o1.es ∧ o1.elems.length ≤ o'.elems.length ∧ ρ a' r' = ρ a' r' := fun a' r' o1 ho1 => by
    by_cases ha : a' = a
    · subst ha
      rw [hH'a]
      by_cases hr : r' = r
      · subst hr
        rw [ho] at ho1
        injection ho1 with ho1
        subst ho1
        rw [if_pos rfl]
        exact ⟨_, rfl, rfl, by simp, rfl⟩
      · rw [if_neg hr]; exact ⟨o1, ho1, rfl, Nat.le_refl _, rfl⟩
    · rw [hH'n a' ha]; exact ⟨o1, ho1, rfl, Nat.le_refl _, rfl⟩
  have hback0 : ∀ (a' r' : Nat) o1, (H' a')[r']? = some o1 → ∃ o2, (s.H a')[r']? = some o2 ∧ o1.es = o2.es ∧ (a' = a ∧ r' = r ∨ o1 = o2) := fun a' r' o1 ho1 => by
    by_cases ha : a' = a
    · subst ha
      rw [hH'a] at ho1
      by_cases hr : r' = r
      · subst hr
        rw [if_pos rfl] at ho1
        injection ho1 with ho1
        exact ⟨o, ho, by rw [← ho1], .inl ⟨rfl, rfl⟩⟩
      · rw [if_neg hr] at ho1; exact ⟨o1, ho1, rfl, .inr rfl⟩
    · rw [hH'n a' ha] at ho1; exact ⟨o1, ho1, rfl, .inr rfl⟩
  have hback : ∀ (a' r' : Nat) o1 b' c', (H' a')[r']? = some o1 → ρ a' r' = some (b', c') → b' < w.heap.size → Xo X ρ s.H b' := fun a' r' o1 b' c' ho1 hr1 _ => by
    obtain ⟨o2, g1, _⟩ := hback0 a' r' o1 ho1
    exact .inr ⟨a', r', o2, c', g1, hr1⟩
  have hmono : ∀ x v, AV.rel ρ s.H (Xo X ρ s.H) w x v → AV.rel ρ H' (Xo X ρ H') (w.setRow b cl.toArray) x v := fun x v hx => but_mono hXb e0 hlive hback hx
  refine ⟨⟨hinv.keep.but e0 (hinv.old a r o b c ho hρ).1, fun a' r' o1 ho1 => ?_, fun a1 r1 a2 r2 o1 o2 b1 c1 c2 ho1 ho2 hr1 hr2 => ?_, fun a1 r1 o1 b1 c1 ho1 hr1 => ?_, fun b1 hb1 => Nat.lt_of_lt_of_le (hinv.bar b1 hb1) e0.size, fun a1 r1 o1 ho1 => ?_⟩, fun t x hx => ?_⟩
  · obtain ⟨o2, g1, g2, g3⟩ := hback0 a' r' o1 ho1
    by_cases har : a' = a ∧ r' = r
    · obtain ⟨rfl, rfl⟩ := har
      rw [hH'a, if_pos rfl] at ho1
      injection ho1 with ho1
      subst ho1
      refine ⟨fun y hy => ?_, q2, ?_⟩
      · rcases List.mem_or_eq_of_mem_set hy with hy | rfl
        · exact q1 y hy
        · rw [putCells_len hj]; exact hel
      · rw [hρ]
        refine ⟨cl.toArray, setRow_heap w b cells _ _ _ p1, by simp [hclen, p2], by simpa using p3, p4, fun i' e' j' x he' hx => ?_⟩
        simp only [List.getElem?_toArray]
        rw [hcget]
        by_cases hii : i' = i
        · subst hii
          rw [List.getElem?_set] at he'
          simp [hi] at he'
          subst he'
          rw [putCells_get hj] at hx
          split at hx
          · rename_i hjj
            rw [if_pos (by omega)]
            obtain ⟨u, u1, u2, u3⟩ := hrel _ _ hx
            exact ⟨u, by rw [show i' * o.es + j' - (i' * o.es + j) = j' - j by omega]; exact u1, u2, hmono _ _ u3⟩
          · rename_i hjj
            rw [if_neg (by omega)]
            obtain ⟨u, u1, u2, u3⟩ := p5 i' e j' x he hx
            exact ⟨u, u1, u2, hmono _ _ u3⟩
        · rw [List.getElem?_set_ne (Ne.symm hii)] at he'
          have hj' : j' < e'.length := (List.getElem?_eq_some_iff.1 hx).1
          rw [q1 e' (List.mem_of_getElem? he')] at hj'
          rw [if_neg (by rw [hvl]; exact apart_cells hii (by omega) hj')]
          obtain ⟨u, u1, u2, u3⟩ := p5 i' e' j' x he' hx
          exact ⟨u, u1, u2, hmono _ _ u3⟩
    · rcases g3 with g3 | g3
      · exact absurd g3 har
      · subst g3
        refine objRel_map (hinv.objs a' r' o1 g1) rfl (fun b' c' hb' => e0.block b' (objRel_lt (hinv.objs a' r' o1 g1) hb') (fun hbb => ?_)) hmono
        subst hbb
        exact har (hinv.inj a' r' a r o1 o b' c' c g1 ho hb' hρ)
  · obtain ⟨o1', g1, _⟩ := hback0 a1 r1 o1 ho1
    obtain ⟨o2', g2, _⟩ := hback0 a2 r2 o2 ho2
    exact hinv.inj a1 r1 a2 r2 o1' o2' b1 c1 c2 g1 g2 hr1 hr2
  · obtain ⟨o1', g1, _⟩ := hback0 a1 r1 o1 ho1
    exact hinv.old a1 r1 o1' b1 c1 g1 hr1
  · obtain ⟨o2, g1, g2, g3⟩ := hback0 a1 r1 o1 ho1
    rcases g3 with ⟨rfl, rfl⟩ | g3
    · rw [hH'a, if_pos rfl] at ho1
      injection ho1 with ho1
      subst ho1
      intro y hy x hx
      rcases List.mem_or_eq_of_mem_set hy with hy | rfl
      · exact hinv.self a1 r1 o ho y hy x hx
      · unfold putCells at hx
        simp only [List.mem_append] at hx
        rcases hx with (hx | hx) | hx
        · exact hinv.self a1 r1 o ho e (List.mem_of_getElem? he) x (List.mem_of_mem_take hx)
        · exact hself x hx
        · exact hinv.self a1 r1 o ho e (List.mem_of_getElem? he) x (List.mem_of_mem_drop hx)
    · subst g3; exact hinv.self a1 r1 o1 g1
  · obtain ⟨v, v1, v2⟩ := htm t x hx
    exact ⟨v, v1, TV.rel_map v2 hmono⟩

theorem run_storeAt {t : TypeId} {b off : Nat} {v : Value} {ty : TypeId} {cells : Array Value} (hs : szO P t = some v.cells.size) (hb : w.heap[b]? = some (.cells cells ty (0, 0))) (hl : off + v.cells.size ≤ cells.size) (h1 : ∀ u ∈ v.cells, u.oneCell' = true) :
    (Instr.storeAt t (.pointer (some ⟨b, off, none⟩)) v).run P w = .ok () (w.setRow b (cells.toList.take off ++ v.cells.toList ++ cells.toList.drop (off + v.cells.size)).toArray) := by
  unfold Instr.storeAt storeVar
  simp only [Instr.sureAddr, Sem.run_bind, Sem.run_pure, Result.andThen_ok, run_szO hs]
  rw [if_neg (fun h => h rfl)]
  have := run_storeCells_at P b off ty v.cells.toList 0 cells w hb (by simpa using hl) (fun u hu => h1 u (by simpa using hu))
  simpa using this
end
end Go.Proofs.YtennjcjjegbhgaaGreat

/-
  The abstract machine: a row is handed to a matrix; append onto own rows.
-/
namespace Go.Proofs.YtennjcjjegbhgaaGreat
open Go.RowKit

section
variable {P : Program} {w0 w w' : World} {O X : Nat → Prop} {ρ : Rho} {H : OH}

theorem killTV_rel {ρ' : Rho} {H' : OH} {Y Y' : Nat → Prop} {k : Nat → Nat → Bool} {t : TV} {v : Value} (h : t.rel ρ H Y w v) (hk : ∀ x v, x.rel ρ H Y w v → AV.rel ρ' H' Y' w' (killAV k x) v) : (killTV k t).rel ρ' H' Y' w' v := by
  have agg : ∀ cs v, aggRel ρ H Y w cs v → aggRel ρ' H' Y' w' (cs.map (killAV k)) v := fun cs v h => by
    obtain ⟨vs, h1, h2, h3⟩ := h
    refine ⟨vs, h1, by simpa using h2, fun j x hx => ?_⟩
    rw [List.getElem?_map] at hx
    cases hj : cs[j]? with
    | none => rw [hj] at hx; cases hx
    | some y =>
      rw [hj] at hx
      simp at hx
      subst hx
      obtain ⟨u, u1, u2, u3⟩ := h3 j y hj
      exact ⟨u, u1, u2, hk _ _ u3⟩
  cases t with
  | one x => exact hk _ _ h
  | agg cs => exact agg cs v h
  | tup ts =>
    obtain ⟨vs, h1, h2, h3⟩ := h
    refine ⟨vs, h1, by simpa using h2, fun j b cs hx => ?_⟩
    rw [List.getElem?_map] at hx
    cases hj : ts[j]? with
    | none => rw [hj] at hx; cases hx
    | some y =>
      obtain ⟨b', cs'⟩ := y
      rw [hj] at hx
      simp at hx
      obtain ⟨rfl, rfl⟩ := hx
      obtain ⟨u, u1, u2⟩ := h3 j b' cs' hj
      refine ⟨u, u1, ?_⟩
      rcases u2 with ⟨u2, u3⟩ | ⟨u2, x, rfl, u4⟩
      · exact .inl ⟨u2, agg _ _ u3⟩
      · exact .inr ⟨u2, _, rfl, hk _ _ u4⟩

theorem kill_tm {ρ' : Rho} {H' : OH} {k : Nat → Nat → Bool} {s : AS} {a : Act} (h : TmRel X ρ s a w) (hk : ∀ x v, x.rel ρ s.H (Xo X ρ s.H) w v → AV.rel ρ' H' (Xo X ρ' H') w' (killAV k x) v) : TmRel X ρ' ⟨s.tmps.map (killTV k), H'⟩ a w' := by
  intro t x hx
  simp only [List.getElem?_map] at hx
  cases hj : s.tmps[t]? with
  | none => rw [hj] at hx; cases hx
  | some y =>
    rw [hj] at hx
    simp at hx
    subst hx
    obtain ⟨v, v1, v2⟩ := h t y hj
    exact ⟨v, v1, killTV_rel v2 hk⟩

/-- The single row of family b becomes the next row of family a. -/
theorem merge_rel (hinv : Inv w0 O X H ρ w) {a b : Nat} {ob : OObj} (hab : b ≠ a) (hb : H b = [ob]) (hp : ∀ e ∈ ob.elems, ∀ x ∈ e, isPure x = true) :
    Inv w0 O X (updH (updH H a (H a ++ [ob])) b []) (fun x y => if x = a ∧ y = (H a).length then ρ b 0 else ρ x y) w ∧
    (∀ x v, AV.rel ρ H (Xo X ρ H) w x v → AV.rel (fun x y => if x = a ∧ y = (H a).length then ρ b 0 else ρ x y) (updH (updH H a (H a ++ [ob])) b []) (Xo X (fun x y => if x = a ∧ y = (H a).length then ρ b 0 else ρ x y) (updH (updH H a (H a ++ [ob])) b [])) w (killAV (fun x _ => x == b) x) v) ∧
    (∀ off len v, AV.rel ρ H (Xo X ρ H) w (.sl b 0 off len) v → AV.rel (fun x y => if x = a ∧ y = (H a).length then ρ b 0 else ρ x y) (updH (updH H a (H a ++ [ob])) b []) (Xo X (fun x y => if x = a ∧ y = (H a).length then ρ b 0 else ρ x y) (updH (updH H a (H a ++ [ob])) b [])) w (.sl a (H a).length off len) v) := by
  generalize hH : updH (updH H a (H a ++ [ob])) b [] = H1
  generalize hρ1 : (fun x y => if x = a ∧ y = (H a).length then ρ b 0 else ρ x y : Rho) = ρ1
  have hHb : H1 b = [] := by rw [← hH]; exact updH_eq
  have hHa : H1 a = H a ++ [ob] := by rw [← hH, updH_ne (Ne.symm hab), updH_eq]
  have hHn : ∀ x, x ≠ a → x ≠ b → H1 x = H x := fun x h1 h2 => by rw [← hH, updH_ne h2, updH_ne h1]
  have hρn : ∀ x y, ¬ (x = a ∧ y = (H a).length) → ρ1 x y = ρ x y := fun x y h => by rw [← hρ1]; exact if_neg h
  have hρa : ρ1 a (H a).length = ρ b 0 := by rw [← hρ1]; exact if_pos ⟨rfl, rfl⟩
  have hb0 : (H b)[0]? = some ob := by rw [hb]; rfl
  -- forward: a live row of H that is not of b is the same in H1
  have fwd : ∀ (x y : Nat) o, (H x)[y]? = some o → x ≠ b → (H1 x)[y]? = some o ∧ ρ1 x y = ρ x y := fun x y o ho hx => by
    by_cases hxa : x = a
    · subst hxa
      have hlt : y < (H x).length := (List.getElem?_eq_some_iff.1 ho).1
      exact ⟨by rw [hHa, List.getElem?_append_left hlt]; exact ho, hρn _ _ (by omega)⟩
    · rw [hHn x hxa hx]; exact ⟨ho, hρn _ _ (fun h => hxa h.1)⟩
  -- back: a live row of H1 is one of H
  have back : ∀ (x y : Nat) o, (H1 x)[y]? = some o → ∃ x' y', (H x')[y']? = some o ∧ ρ1 x y = ρ x' y' ∧ ((x' = x ∧ y' = y ∧ x ≠ b) ∨ (x = a ∧ y = (H a).length ∧ x' = b ∧ y' = 0 ∧ o = ob)) := fun x y o ho => by
    by_cases hxb : x = b
    · subst hxb; rw [hHb] at ho; simp at ho
    · by_cases hxa : x = a
      · subst hxa
        rw [hHa] at ho
        rcases Nat.lt_trichotomy y (H x).length with hy | hy | hy
        · rw [List.getElem?_append_left hy] at ho
          exact ⟨x, y, ho, hρn _ _ (by omega), .inl ⟨rfl, rfl, hxb⟩⟩
        · subst hy
          rw [List.getElem?_append_right (Nat.le_refl _), Nat.sub_self] at ho
          simp at ho
          subst ho
          exact ⟨b, 0, hb0, hρa, .inr ⟨rfl, rfl, rfl, rfl, rfl⟩⟩
        · rw [List.getElem?_eq_none (by simp; omega)] at ho; cases ho
      · rw [hHn x hxa hxb] at ho
        exact ⟨x, y, ho, hρn _ _ (fun h => hxa h.1), .inl ⟨rfl, rfl, hxb⟩⟩
  have hXo : ∀ c, Xo X ρ1 H1 c → Xo X ρ H c := fun c hc => by
    rcases hc with hc | ⟨x, y, o, n, h1, h2⟩
    · exact .inl hc
    · obtain ⟨x', y', g1, g2, _⟩ := back x y o h1
      exact .inr ⟨x', y', o, n, g1, by rw [← g2]; exact h2⟩
  have hXp : ∀ x v, Rep (Xo X ρ H) w x v → Rep (Xo X ρ1 H1) w x v := fun x v h => Rep.weaken (fun c _ hc => hXo c hc) h
  have mono : ∀ x v, AV.rel ρ H (Xo X ρ H) w x v → AV.rel ρ1 H1 (Xo X ρ1 H1) w (killAV (fun x _ => x == b) x) v := fun x v h => by
    cases x with
    | p x => exact hXp x v h
    | sl x y off len =>
      simp only [killAV]
      by_cases hxb : x = b
      · subst hxb; simp; trivial
      · simp only [beq_iff_eq, hxb, if_false]
        obtain ⟨o, h1, h2, h3⟩ := h
        obtain ⟨f1, f2⟩ := fwd x y o h1 hxb
        exact ⟨o, f1, h2, by rw [f2]; exact h3⟩
    | ptr x y i j =>
      simp only [killAV]
      by_cases hxb : x = b
      · subst hxb; simp; trivial
      · simp only [beq_iff_eq, hxb, if_false]
        obtain ⟨o, b', c, h1, h2, h3⟩ := h
        obtain ⟨f1, f2⟩ := fwd x y o h1 hxb
        exact ⟨o, b', c, f1, by rw [f2]; exact h2, h3⟩
    | junk => trivial
  have same : ∀ z x v, selfAV z x → z ≠ b → AV.rel ρ H (Xo X ρ H) w x v → AV.rel ρ1 H1 (Xo X ρ1 H1) w x v := fun z x v hs hz h => by
    have := mono x v h
    cases x with
    | sl x y off len =>
      have hs : x = z := hs
      have hx : x ≠ b := by omega
      simpa [killAV, hx] using this
    | ptr x y i j =>
      have hs : x = z := hs
      have hx : x ≠ b := by omega
      simpa [killAV, hx] using this
    | p x => exact this
    | junk => trivial
  refine ⟨⟨hinv.keep, fun x y o ho => ?_, fun x y x' y' o o' c n n' ho ho' hr hr' => ?_, fun x y o c n ho hr => ?_, hinv.bar, fun x y o ho => ?_⟩, mono, fun off len v h => ?_⟩
  · obtain ⟨x', y', g1, g2, g3⟩ := back x y o ho
    have hobj := hinv.objs x' y' o g1
    obtain ⟨q1, q2, q3⟩ := hobj
    refine ⟨q1, q2, ?_⟩
    rw [g2]
    cases hr : ρ x' y' with
    | none => rw [hr] at q3; exact q3
    | some bc =>
      obtain ⟨b', c⟩ := bc
      rw [hr] at q3
      obtain ⟨cells, p1, p2, p3, p4, p5⟩ := q3
      refine ⟨cells, p1, p2, p3, p4, fun i e j z he hz => ?_⟩
      obtain ⟨u, u1, u2, u3⟩ := p5 i e j z he hz
      refine ⟨u, u1, u2, ?_⟩
      have hse := hinv.self x' y' o g1 e (List.mem_of_getElem? he) z (List.mem_of_getElem? hz)
      rcases g3 with ⟨rfl, rfl, hxb⟩ | ⟨rfl, rfl, rfl, rfl, rfl⟩
      · exact same x' z u hse hxb u3
      · have hpz := hp e (List.mem_of_getElem? he) z (List.mem_of_getElem? hz)
        cases z <;> first | exact hXp _ _ u3 | cases hpz
  · obtain ⟨x1, y1, g1, g2, g3⟩ := back x y o ho
    obtain ⟨x2, y2, k1, k2, k3⟩ := back x' y' o' ho'
    obtain ⟨e1, e2⟩ := hinv.inj x1 y1 x2 y2 o o' c n n' g1 k1 (by rw [← g2]; exact hr) (by rw [← k2]; exact hr')
    rcases g3 with ⟨g3, g4, g5⟩ | ⟨g3, g4, g5, g6, _⟩
    · rcases k3 with ⟨k3, k4, k5⟩ | ⟨k3, k4, k5, k6, _⟩
      · omega
      · omega
    · rcases k3 with ⟨k3, k4, k5⟩ | ⟨k3, k4, k5, k6, _⟩
      · omega
      · omega
  · obtain ⟨x1, y1, g1, g2, g3⟩ := back x y o ho
    exact hinv.old x1 y1 o c n g1 (by rw [← g2]; exact hr)
  · obtain ⟨x', y', g1, g2, g3⟩ := back x y o ho
    rcases g3 with ⟨rfl, rfl, hxb⟩ | ⟨rfl, rfl, rfl, rfl, rfl⟩
    · exact hinv.self x' y' o g1
    · exact fun e he z hz => pure_self (hp e he z hz)
  · obtain ⟨o, h1, h2, h3⟩ := h
    rw [hb0] at h1
    injection h1 with h1
    subst h1
    refine ⟨ob, by rw [hHa, List.getElem?_append_right (Nat.le_refl _), Nat.sub_self]; rfl, h2, ?_⟩
    rw [hρa]; exact h3
end
end Go.Proofs.YtennjcjjegbhgaaGreat
