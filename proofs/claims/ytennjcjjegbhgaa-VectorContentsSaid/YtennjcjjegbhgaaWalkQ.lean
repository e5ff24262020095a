/-
  The walks of (*quadformmake.Tape).Next and quadformmake.Vector.
-/
import Derived.Test.YtennjcjjegbhgaaApp
import Derived.Test.YtennjcjjegbhgaaWalkI
import Derived.Test.YtennjcjjegbhgaaWalkK
namespace Go.Proofs.Ytennjcjjegbhgaa
open Go.RowKit

/-- A tape's two cells. -/
def tapF (v : Value) (a : Nat) : Nat → Value := fun j => if j = 0 then v else .int .i64 (a : Int)
def nextAt (l : List Int) (a : Nat) : Nat := if a < l.length then a + 1 else a

set_option maxRecDepth 100000 in
set_option maxHeartbeats 1000000 in
theorem next_any (tx : Nat) (A : Option Addr) (c : Nat) (l : List Int) (a : Nat) (w : World) (hl : RdI .i8 w A l) (hb : ∀ z ∈ l, -128 ≤ z ∧ z ≤ 127) (ll : l.length ≤ 9223372036854775807) (ha : a ≤ l.length) (hT : w.rowIs tx 43 2 (tapF (.slice A l.length c) a)) (hne : l ≠ [] → ∀ p, A = some p → p.block ≠ tx) :
    Calls Try.prog 18 #[.pointer (some ⟨tx, 0, none⟩)] w fun e w' => e = .returned (.int .i64 (l.getD a 0)) ∧ w'.rowIs tx 43 2 (tapF (.slice A l.length c) (nextAt l a)) ∧ w.grownBy w' (some tx) := by
  have HT := Lib.hid hT
  have HL := Lib.hid hl
  have HB := Lib.hid hb
  have HN := Lib.hid hne
  clear hT hl hb hne
  have t0 : w.cell? ⟨tx, 0, none⟩ = some (.slice A l.length c) := HT.out.cell (by omega)
  have t1 : w.cell? ⟨tx, 1, none⟩ = some (.int .i64 (a : Int)) := HT.out.cell (by omega)
  have t2 : w.frozen? ⟨tx, 1, none⟩ = false := HT.out.frozen 1
  by_cases hlt : a < l.length
  · obtain ⟨z, hz⟩ := getElem?_of_lt hlt
    obtain ⟨b, off, rfl, hc⟩ := HL.out.at_ hz
    have hbt : b ≠ tx := HN.out (by rintro rfl; simp at hlt) _ rfl
    have hzb := HB.out z (List.mem_of_getElem? hz)
    have hz1 := hzb.1
    have hz2 := hzb.2
    have HZ : Hid (l.getD a 0 = z) := Lib.hid (by rw [List.getD_eq_getElem?_getD, hz]; rfl)
    have HNx : Hid (nextAt l a = a + 1) := Lib.hid (if_pos hlt)
    clear hz hzb
    go_enter Try.func18, Try.ntmps18
    go_wp2_with fail
    go_quiet (fail)
    go_wp2_with fail
    have hrow := ((rowIs_drewN HT.out nq).set 1 (.int .i64 ((a : Int) + 1))).congr (g := tapF (.slice (some ⟨b, off, none⟩) l.length c) (a + 1)) (fun j hj => by
      match j, hj with
      | 0, _ => rfl
      | 1, _ => simp [tapF])
    have HROW := Lib.hid hrow
    have HG := Lib.hid (gb_set (gb_of_ext ((Ext.refl w).drewN nq) tx) 1 (.int .i64 ((a : Int) + 1)))
    have s0 : ((w.drewN nq).setCell ⟨tx, 1, none⟩ (.int .i64 ((a : Int) + 1))).cell? ⟨tx, 0, none⟩ = some (.slice (some ⟨b, off, none⟩) l.length c) := HROW.out.cell (i := 0) (by omega)
    have s1 : ((w.drewN nq).setCell ⟨tx, 1, none⟩ (.int .i64 ((a : Int) + 1))).cell? ⟨tx, 1, none⟩ = some (.int .i64 ((a : Int) + 1)) := by
      have := HROW.out.cell (i := 1) (by omega)
      rw [this]; simp [tapF]
    have s2 : ((w.drewN nq).setCell ⟨tx, 1, none⟩ (.int .i64 ((a : Int) + 1))).cell? ⟨b, off + a, none⟩ = some (.int .i8 z) := gb_cell HG.out hc hbt
    have a1 : IntKind.i64.wrap ((a : Int) + 1 - 1) = (a : Int) := by rw [Int.add_sub_cancel]; exact IntWalk.i64_in _ (by omega)
    have a2 : (a : Int) < (l.length : Int) := by omega
    clear t0 t1 t2 hc hrow
    generalize (w.drewN nq).setCell ⟨tx, 1, none⟩ (.int .i64 ((a : Int) + 1)) = w3 at *
    go_quiet (fail)
    go_wp2_with fail
    go_ret
    rw [HZ.out, HNx.out]
    exact ⟨rfl, rowIs_drewN HROW.out _, gb_trans HG.out (gb_of_ext ((Ext.refl _).drewN _) tx)⟩
  · go_enter Try.func18, Try.ntmps18
    have HZ : Hid (l.getD a 0 = 0) := Lib.hid (by rw [List.getD_eq_getElem?_getD, List.getElem?_eq_none (by omega)]; rfl)
    have HNx : Hid (nextAt l a = a) := Lib.hid (if_neg hlt)
    go_wp2_with fail
    go_quiet (fail)
    go_wp2_with fail
    go_ret
    rw [HZ.out, HNx.out]
    exact ⟨rfl, HT.out, gb_of_ext ((Ext.refl _).drewN _) tx⟩

end Go.Proofs.Ytennjcjjegbhgaa
