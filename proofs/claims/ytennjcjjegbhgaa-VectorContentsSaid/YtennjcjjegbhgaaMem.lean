/-
  Words for memory that all walks of this seat share: worlds that only grow ('Ext'), slices that read as lists ('Rd').
-/
import Derived.Test.YtennjcjjegbhgaaRows
import Derived.WalkKit
import Derived.WalkSpells
import Derived.WalkLawsBesides
import Derived.Deep.QuietTactic
import Derived.BigQuiet
import Derived.Lib.Hide
import Derived.Deep.Draws
import Derived.Deep.AppendLies
import Derived.Laws.OwnMore
namespace Go.Proofs.Ytennjcjjegbhgaa
open Go.RowKit

/-- Of what lay in w nothing has turned in w'. -/
def Ext (w w' : World) : Prop := Below w.heap.size w w'

theorem Ext.refl (w : World) : Ext w w := Below.refl _ _
theorem Ext.trans {a b c : World} (h : Ext a b) (k : Ext b c) : Ext a c := Below.trans h (Below.mono k h.size)
theorem Ext.drew {a b : World} (h : Ext a b) : Ext a b.drew := Below.drew h
theorem Ext.drewN {a b : World} (h : Ext a b) (n : Nat) : Ext a (b.drewN n) := ⟨h.os, h.tape, h.output, h.size, h.block⟩
theorem Ext.alloc {a b : World} (h : Ext a b) (o : Obj) : Ext a (b.alloc o) := Below.alloc h h.size o
theorem Ext.setCell {a b : World} (h : Ext a b) {p : Addr} (hp : a.heap.size ≤ p.block) (u : Value) : Ext a (b.setCell p u) := Below.setCell h hp u
theorem Ext.grown {a b c : World} {row : Option Nat} (h : Ext a b) (hg : b.grownBy c row) (hr : ∀ k, row = some k → a.heap.size ≤ k) : Ext a c :=
  Below.grown h hg h.size hr
theorem Ext.cell {a b : World} (h : Ext a b) {p : Addr} {v : Value} (hp : a.cell? p = some v) : b.cell? p = some v := by
  have hlt : p.block < a.heap.size := by
    rcases Nat.lt_or_ge p.block a.heap.size with hl | hg
    · exact hl
    · unfold World.cell? at hp; rw [Array.getElem?_eq_none hg] at hp; simp at hp
  rw [Below.cell h hlt]; exact hp
theorem Ext.size {a b : World} (h : Ext a b) : a.heap.size ≤ b.heap.size := Below.size h

theorem cell_lt {w : World} {p : Addr} {v : Value} (hp : w.cell? p = some v) : p.block < w.heap.size := by
  rcases Nat.lt_or_ge p.block w.heap.size with hl | hg
  · exact hl
  · unfold World.cell? at hp; rw [Array.getElem?_eq_none hg] at hp; simp at hp

/-- A slice of one-cell elements at A reads as xs. -/
def Rd (w : World) (A : Option Addr) (xs : List Value) : Prop :=
  xs ≠ [] → ∃ b off, A = some ⟨b, off, none⟩ ∧ ∀ i x, xs[i]? = some x → w.cell? ⟨b, off + i, none⟩ = some x

theorem Rd.nil (w : World) (A : Option Addr) : Rd w A [] := fun h => absurd rfl h
theorem Rd.ext {w w' : World} {A : Option Addr} {xs : List Value} (h : Rd w A xs) (k : Ext w w') : Rd w' A xs := fun hne => by
  obtain ⟨b, off, rfl, hc⟩ := h hne
  exact ⟨b, off, rfl, fun i x hx => k.cell (hc i x hx)⟩
theorem Rd.at_ {w : World} {A : Option Addr} {xs : List Value} (h : Rd w A xs) {k : Nat} {x : Value} (hk : xs[k]? = some x) :
    ∃ b off, A = some ⟨b, off, none⟩ ∧ w.cell? ⟨b, off + k, none⟩ = some x := by
  obtain ⟨b, off, rfl, hc⟩ := h (by rintro rfl; simp at hk)
  exact ⟨b, off, rfl, hc k x hk⟩

/-- A slice of integers of kind k. -/
def RdI (k : IntKind) (w : World) (A : Option Addr) (zs : List Int) : Prop := Rd w A (zs.map (Value.int k))

theorem RdI.nil (k : IntKind) (w : World) (A : Option Addr) : RdI k w A [] := Rd.nil w A
theorem RdI.ext {k : IntKind} {w w' : World} {A : Option Addr} {zs : List Int} (h : RdI k w A zs) (e : Ext w w') : RdI k w' A zs := Rd.ext h e
theorem RdI.at_ {k : IntKind} {w : World} {A : Option Addr} {zs : List Int} (h : RdI k w A zs) {i : Nat} {z : Int} (hi : zs[i]? = some z) :
    ∃ b off, A = some ⟨b, off, none⟩ ∧ w.cell? ⟨b, off + i, none⟩ = some (.int k z) := Rd.at_ h (by simp [hi])

/-- A value that is a slice of int64 and reads as zs. -/
def SlI (k : IntKind) (w : World) (v : Value) (zs : List Int) : Prop :=
  ∃ B c, v = .slice B zs.length c ∧ zs.length ≤ c ∧ zs.length ≤ 9223372036854775807 ∧ RdI k w B zs
theorem SlI.ext {k : IntKind} {w w' : World} {v : Value} {zs : List Int} (h : SlI k w v zs) (e : Ext w w') : SlI k w' v zs := by
  obtain ⟨B, c, h1, h2, h3, h4⟩ := h
  exact ⟨B, c, h1, h2, h3, h4.ext e⟩

/-- A slice of slices of integers. -/
def RdM (k : IntKind) (w : World) (A : Option Addr) (rows : List (List Int)) : Prop :=
  rows ≠ [] → ∃ b off, A = some ⟨b, off, none⟩ ∧ ∀ i r, rows[i]? = some r → ∃ v, w.cell? ⟨b, off + i, none⟩ = some v ∧ SlI k w v r
theorem RdM.nil (k : IntKind) (w : World) (A : Option Addr) : RdM k w A [] := fun h => absurd rfl h
theorem RdM.ext {k : IntKind} {w w' : World} {A : Option Addr} {rows : List (List Int)} (h : RdM k w A rows) (e : Ext w w') : RdM k w' A rows := fun hne => by
  obtain ⟨b, off, rfl, hc⟩ := h hne
  exact ⟨b, off, rfl, fun i r hr => by obtain ⟨v, h1, h2⟩ := hc i r hr; exact ⟨v, e.cell h1, h2.ext e⟩⟩
theorem RdM.at_ {k : IntKind} {w : World} {A : Option Addr} {rows : List (List Int)} (h : RdM k w A rows) {i : Nat} {r : List Int} (hi : rows[i]? = some r) :
    ∃ b off B c, A = some ⟨b, off, none⟩ ∧ w.cell? ⟨b, off + i, none⟩ = some (.slice B r.length c) ∧ r.length ≤ c ∧ r.length ≤ 9223372036854775807 ∧ RdI k w B r := by
  obtain ⟨b, off, rfl, hc⟩ := h (by rintro rfl; simp at hi)
  obtain ⟨v, h1, B, c, rfl, h3, h4, h5⟩ := hc i r hi
  exact ⟨b, off, B, c, rfl, h1, h3, h4, h5⟩

theorem getElem?_of_lt {α : Type} {l : List α} {k : Nat} (h : k < l.length) : ∃ x, l[k]? = some x := ⟨l[k], List.getElem?_eq_getElem h⟩

theorem ret_int {k : IntKind} {a b : Int} (h : a = b) : Ending.returned (.int k a) = .returned (.int k b) := by rw [h]
theorem ret_bool {a b : Bool} (h : a = b) : Ending.returned (.bool a) = .returned (.bool b) := by rw [h]

end Go.Proofs.Ytennjcjjegbhgaa
