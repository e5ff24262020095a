/-
  The walk of vector.apply.
-/
import Derived.Test.YtennjcjjegbhgaaWalkC
namespace Go.Proofs.Ytennjcjjegbhgaa
open Go.RowKit

/-- The sum of the first l products of the entries of two lists, with int64's wraparound. -/
def accW (row x : List Int) : Nat → Int
  | 0 => 0
  | l + 1 => wrap64 (accW row x l + wrap64 (row.getD l 0 * x.getD l 0))
def applyM (rows : List (List Int)) (x : List Int) : List Int := rows.map fun row => accW row x row.length
theorem applyM_at {rows : List (List Int)} {x : List Int} {i : Nat} {z : Int} (h : (applyM rows x)[i]? = some z) : ∃ row, rows[i]? = some row ∧ z = accW row x row.length := by
  unfold applyM at h
  rw [List.getElem?_map] at h
  cases hr : rows[i]? with
  | none => rw [hr] at h; cases h
  | some row => rw [hr] at h; simp at h; exact ⟨row, rfl, h.symm⟩

def apF (rows : List (List Int)) (x : List Int) (r l : Nat) : Nat → Value :=
  fun j => if j < r then .int .i64 (accW (rows.getD j []) x (rows.getD j []).length) else if j = r then .int .i64 (accW (rows.getD j []) x l) else .int .i64 0

theorem apF_lt {rows : List (List Int)} {x : List Int} {r l j : Nat} (h : j < r) : apF rows x r l j = .int .i64 (accW (rows.getD j []) x (rows.getD j []).length) := if_pos h
theorem apF_eq {rows : List (List Int)} {x : List Int} {r l : Nat} : apF rows x r l r = .int .i64 (accW (rows.getD r []) x l) := by
  unfold apF; rw [if_neg (by omega), if_pos rfl]
theorem apF_gt {rows : List (List Int)} {x : List Int} {r l j : Nat} (h : r < j) : apF rows x r l j = .int .i64 0 := by
  unfold apF; rw [if_neg (by omega), if_neg (by omega)]

set_option maxHeartbeats 1000000 in
theorem apply_any (A B : Option Addr) (c d : Nat) (rows : List (List Int)) (x : List Int) (w : World) (hR : RdM .i64 w A rows) (hx : RdI .i64 w B x) (hn : rows.length ≤ 65536) (hl : ∀ i, i < rows.length → (rows.getD i []).length ≤ x.length) (hlx : x.length ≤ 9223372036854775807) :
    Calls Try.prog 29 #[.slice A rows.length c, .slice B x.length d] w fun e w' => e = .returned (.slice (some ⟨w.heap.size, 0, none⟩) rows.length rows.length) ∧ RdI .i64 w' (some ⟨w.heap.size, 0, none⟩) (applyM rows x) ∧ Ext w w' := by
  have HR := Lib.hid hR
  have HX := Lib.hid hx
  have HL := Lib.hid hl
  clear hR hx hl
  have hmk := run_make_row' (P := Try.prog) 22 2 (.int .i64 0) 8 Try.underlying22 Try.infoI64 rfl .i64 .i64 rows.length (by omega) (by omega)
  go_enter Try.func29, Try.ntmps29
  go_wp2_with fail
  clear hmk
  go_loopw [15, 6, 7, 8, 9] (fun i _ _ _ _ wr => ∃ r : Nat, r ≤ rows.length ∧ i = .int .i64 r ∧ Hid (wr.rowIs w.heap.size 2 rows.length (apF rows x r 0)) ∧ Hid (Ext w wr)) (fun i _ _ _ _ _ => rows.length - (intOf i).toNat)
  case atStart => exact ⟨0, Nat.zero_le _, rfl, Lib.hid ((World.rowIs_made w (.int .i64 0) rows.length _).congr (fun j _ => by simp [apF, accW])), Lib.hid ((Ext.refl _).alloc _)⟩
  case round =>
    obtain ⟨r, hr, rfl, HO, HE⟩ := hrel
    by_cases hlt : r < rows.length
    · obtain ⟨row, ha⟩ := getElem?_of_lt hlt
      obtain ⟨b, off, BR, cr, rfl, hc, hcr, hlr, hrow⟩ := (HR.out.ext HE.out).at_ ha
      have hrl : row.length ≤ x.length := by have := HL.out r hlt; rw [List.getD_eq_getElem?_getD, ha] at this; exact this
      have HA := Lib.hid ha
      have HD : Hid (rows.getD r [] = row) := Lib.hid (by rw [List.getD_eq_getElem?_getD, ha]; rfl)
      have HB : Hid (RdI .i64 w BR row) := Lib.hid (by
        obtain ⟨b', off', BR', cr', h1, h2, _, _, h5⟩ := HR.out.at_ ha
        cases h1
        rw [HE.out.cell h2] at hc
        cases hc
        exact h5)
      clear ha hrow
      go_wp2_with fail
      obtain ⟨wo, rfl⟩ : ∃ wo : World, wo = wr := ⟨_, rfl⟩
      go_loopw [22, 8, 9] (fun i _ _ wx => ∃ l : Nat, l ≤ row.length ∧ i = .int .i64 l ∧ Hid (wx.rowIs w.heap.size 2 rows.length (apF rows x r l)) ∧ Hid (Ext w wx)) (fun i _ _ _ => row.length - (intOf i).toNat)
      case atStart => exact ⟨0, Nat.zero_le _, rfl, HO, HE⟩
      case round =>
        clear HO HE hc
        obtain ⟨l, hl, rfl, HO, HE⟩ := hrel
        by_cases hll : l < row.length
        · obtain ⟨a, ha⟩ := getElem?_of_lt hll
          obtain ⟨b2, off2, rfl, hc2⟩ := (HB.out.ext HE.out).at_ ha
          obtain ⟨a3, ha3⟩ := getElem?_of_lt (l := x) (k := l) (by omega)
          obtain ⟨b3, off3, rfl, hc3⟩ := (HX.out.ext HE.out).at_ ha3
          have t1 : wr.cell? ⟨w.heap.size, r, none⟩ = some (.int .i64 (accW row x l)) := by
            rw [HO.out.cell hlt, apF_eq, HD.out]
          have t2 : wr.frozen? ⟨w.heap.size, r, none⟩ = false := HO.out.frozen r
          have HN : Hid (wrap64 (accW row x l + wrap64 (a * a3)) = accW row x (l + 1)) := Lib.hid (by
            simp [accW, List.getD_eq_getElem?_getD, ha, ha3])
          have hlx2 : (l : Int) < (x.length : Int) := by omega
          have HA2 := Lib.hid ha
          clear ha ha3
          go_wp2_with fail
          go_big_region
          go_wp2_with fail
          go_roundw
          case rel =>
            refine ⟨l + 1, by omega, by go_num, Lib.hid ((((HO.out.set r _).congr (fun j _ => ?_))).drew), Lib.hid ((HE.out.setCell (Nat.le_refl _) _).drew)⟩
            by_cases e : j = r
            · subst e
              rw [if_pos rfl, apF_eq, HD.out, HN.out]
            · rw [if_neg e]
              rcases Nat.lt_or_gt_of_ne e with h | h
              · rw [apF_lt h, apF_lt h]
              · rw [apF_gt h, apF_gt h]
          case measure => simp [intOf]; omega
        · go_wp2_with fail
          go_roundw
          case rel =>
            refine ⟨r + 1, by omega, by go_num, Lib.hid (HO.out.congr (fun j _ => ?_)), HE⟩
            have : l = row.length := by omega
            subst this
            rcases Nat.lt_trichotomy j r with h | h | h
            · rw [apF_lt h, apF_lt (by omega)]
            · subst h
              rw [apF_eq, apF_lt (by omega), HD.out]
            · rw [apF_gt h]
              by_cases e : j = r + 1
              · subst e; rw [apF_eq]; rfl
              · rw [apF_gt (by omega)]
          case measure => simp [intOf]; omega
    · go_wp2_with fail
      go_ret
      refine ⟨rfl, RdI.of_row HO.out (by simp [applyM]) (fun i z hz => ?_), HE.out⟩
      obtain ⟨row, h1, rfl⟩ := applyM_at hz
      have hi : i < rows.length := by
        rcases Nat.lt_or_ge i rows.length with hl | hg
        · exact hl
        · rw [List.getElem?_eq_none hg] at h1; cases h1
      rw [apF_lt (by omega), List.getD_eq_getElem?_getD, h1]
      rfl

end Go.Proofs.Ytennjcjjegbhgaa
