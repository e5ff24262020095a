/-
  The walk of quadformlaw09.awake: the sanity check answers true.
-/
import Derived.Test.YtennjcjjegbhgaaPlainB
import Derived.Test.YtennjcjjegbhgaaWalkO
namespace Go.Proofs.Ytennjcjjegbhgaa
open Go.RowKit

/-- A slice of two numbers in a block of its own. -/
theorem rdI_two {w : World} {b : Nat} {x y : Int} (h0 : w.cell? ⟨b, 0, none⟩ = some (.int .i64 x)) (h1 : w.cell? ⟨b, 1, none⟩ = some (.int .i64 y)) : RdI .i64 w (some ⟨b, 0, none⟩) [x, y] := fun _ => ⟨b, 0, rfl, fun i u hu => by
  match i, hu with
  | 0, hu => simp at hu; subst hu; exact h0
  | 1, hu => simp at hu; subst hu; exact h1⟩
theorem rdI_three {w : World} {b : Nat} {x y z : Int} (h0 : w.cell? ⟨b, 0, none⟩ = some (.int .i64 x)) (h1 : w.cell? ⟨b, 1, none⟩ = some (.int .i64 y)) (h2 : w.cell? ⟨b, 2, none⟩ = some (.int .i64 z)) : RdI .i64 w (some ⟨b, 0, none⟩) [x, y, z] := fun _ => ⟨b, 0, rfl, fun i u hu => by
  match i, hu with
  | 0, hu => simp at hu; subst hu; exact h0
  | 1, hu => simp at hu; subst hu; exact h1
  | 2, hu => simp at hu; subst hu; exact h2⟩
theorem slI_two {w : World} {b : Nat} {x y : Int} (h0 : w.cell? ⟨b, 0, none⟩ = some (.int .i64 x)) (h1 : w.cell? ⟨b, 1, none⟩ = some (.int .i64 y)) : SlI .i64 w (.slice (some ⟨b, 0, none⟩) 2 2) [x, y] :=
  ⟨some ⟨b, 0, none⟩, 2, rfl, by simp, by simp, rdI_two h0 h1⟩

def hexH : List (List Int) := [[2, 1], [1, 2]]
theorem hex_items : (if isReducedM hexH then itemsO hexH [[-1, 1], [0, 2], [1, -1], [1, 0]] else none) = some [(2, [1, -1]), (8, [0, 2]), (2, [1, -1]), (2, [1, 0])] := by decide +kernel
theorem hex_uniq : (uniqP [(2, [1, -1]), (8, [0, 2]), (2, [1, -1]), (2, [1, 0])]).map Prod.snd = [[1, -1], [1, 0], [0, 2]] := by decide +kernel
theorem hex_norm : innerV hexH [1, -1] [1, -1] = .tuple #[.int .i64 2, .bool true] := by
  unfold innerV
  rw [if_pos (by decide +kernel)]
  rw [show accZ [1, -1] (applyM hexH [1, -1]) [1, -1].length = 2 from by decide +kernel]
  rfl
theorem hex_canon : canonS [0, -3, 1] = some [0, 3, -1] := by decide +kernel

theorem su_hex (w W : World) (A B : Option Addr) (hE : Ext w W) (h1 : RdM .i64 W A hexH) (h2 : RdM .i64 W B [[-1, 1], [0, 2], [1, -1], [1, 0]]) :
    Calls Try.prog 15 #[.slice A 2 2, .slice B 4 4] W fun e w' => ∃ C, e = .returned (.tuple #[.slice C 3 3, .bool true]) ∧ RdM .i64 w' C [[1, -1], [1, 0], [0, 2]] ∧ RdM .i64 w' A hexH ∧ Ext w w' := by
  refine (sortUnique_plain A B 2 4 hexH _ W h1 h2 (by decide) (by decide) (by decide)).mono fun e w' ⟨hs, he⟩ => ?_
  rw [hex_items] at hs
  obtain ⟨C, hr, hrd⟩ := hs
  rw [hex_uniq] at hr hrd
  exact ⟨C, hr, hrd, h1.ext he, hE.trans he⟩
theorem norm_hex (w W : World) (A B C : Option Addr) (hE : Ext w W) (h1 : RdM .i64 W A hexH) (h2 : RdI .i64 W B [1, -1]) (h3 : RdM .i64 W C [[1, -1], [1, 0], [0, 2]]) :
    Calls Try.prog 16 #[.slice A 2 2, .slice B 2 2] W fun e w' => e = .returned (.tuple #[.int .i64 2, .bool true]) ∧ RdM .i64 w' C [[1, -1], [1, 0], [0, 2]] ∧ Ext w w' := by
  refine (norm_any A B 2 2 hexH [1, -1] W h1 h2 (by decide) (by decide) (by decide)).mono fun e w' ⟨hs, he⟩ => ?_
  rw [hex_norm] at hs
  exact ⟨hs, h3.ext he, hE.trans he⟩
theorem canon_hex (w W : World) (B C : Option Addr) (hE : Ext w W) (h2 : RdI .i64 W B [0, -3, 1]) (h3 : RdM .i64 W C [[1, -1], [1, 0], [0, 2]]) :
    Calls Try.prog 10 #[.slice B 3 3] W fun e w' => ∃ D c, e = .returned (.tuple #[.slice D 3 c, .bool true]) ∧ RdI .i64 w' D [0, 3, -1] ∧ RdM .i64 w' C [[1, -1], [1, 0], [0, 2]] ∧ Ext w w' := by
  refine (canonicalSign_any B 3 [0, -3, 1] W h2 (by decide)).mono fun e w' ⟨hs, he⟩ => ?_
  rw [hex_canon] at hs
  obtain ⟨D, c, hr, _, hrd, _⟩ := hs
  exact ⟨D, c, hr, hrd, h3.ext he, hE.trans he⟩
theorem same_hex (w W : World) (A C D : Option Addr) (hE : Ext w W) (h1 : RdM .i64 W A [[1, -1], [1, 0], [0, 2]]) (h2 : RdM .i64 W C [[1, -1], [1, 0], [0, 2]]) (h3 : RdI .i64 W D [0, 3, -1]) :
    Calls Try.prog 17 #[.slice A 3 3, .slice C 3 3] W fun e w' => e = .returned (.bool true) ∧ RdI .i64 w' D [0, 3, -1] ∧ Ext w w' :=
  (same_any A C 3 3 _ _ W h1 h2 (by decide) (by decide)).mono fun e w' ⟨hs, he⟩ => ⟨by rw [hs]; simp, h3.ext he, hE.trans he⟩
theorem compare_hex (w W : World) (D E : Option Addr) (c : Nat) (hE : Ext w W) (h1 : RdI .i64 W D [0, 3, -1]) (h2 : RdI .i64 W E [0, 3, -1]) :
    Calls Try.prog 7 #[.slice D 3 c, .slice E 3 3] W fun e w' => e = .returned (.int .i64 0) ∧ Ext w w' :=
  (refCompare_any D E c 3 _ _ W h1 h2 (by decide) (by decide)).mono fun e w' ⟨hs, n, hw⟩ => ⟨by rw [hs, cmpL_self], by rw [hw]; exact hE.drewN n⟩

set_option maxRecDepth 100000 in
set_option maxHeartbeats 2000000 in
theorem awake_any (w : World) : Calls Try.prog 8 #[] w fun e w' => e = .returned (.bool true) ∧ Ext w w' := by
  go_enter Try.func8, Try.ntmps8
  go_wp2_with fail
  refine (su_hex w _ _ _ ?_ ?_ ?_).mono ?_
  · repeat (first | exact Ext.refl _ | refine Ext.alloc ?_ _)
  · exact fun _ => ⟨_, 0, rfl, fun i r hr => by
      match i, hr with
      | 0, hr => simp [hexH] at hr; subst hr; exact ⟨.slice (some ⟨w.heap.size, 0, none⟩) 2 2, by go_simp, slI_two (by go_simp) (by go_simp)⟩
      | 1, hr => simp [hexH] at hr; subst hr; exact ⟨.slice (some ⟨w.heap.size + 1, 0, none⟩) 2 2, by go_simp, slI_two (by go_simp) (by go_simp)⟩⟩
  · exact fun _ => ⟨_, 0, rfl, fun i r hr => by
      match i, hr with
      | 0, hr => simp at hr; subst hr; exact ⟨.slice (some ⟨w.heap.size + 1 + 1 + 1, 0, none⟩) 2 2, by go_simp, slI_two (by go_simp) (by go_simp)⟩
      | 1, hr => simp at hr; subst hr; exact ⟨.slice (some ⟨w.heap.size + 1 + 1 + 1 + 1, 0, none⟩) 2 2, by go_simp, slI_two (by go_simp) (by go_simp)⟩
      | 2, hr => simp at hr; subst hr; exact ⟨.slice (some ⟨w.heap.size + 1 + 1 + 1 + 1 + 1, 0, none⟩) 2 2, by go_simp, slI_two (by go_simp) (by go_simp)⟩
      | 3, hr => simp at hr; subst hr; exact ⟨.slice (some ⟨w.heap.size + 1 + 1 + 1 + 1 + 1 + 1, 0, none⟩) 2 2, by go_simp, slI_two (by go_simp) (by go_simp)⟩⟩
  rintro e w1 ⟨C, rfl, hC, hH, he⟩
  have HC := Lib.hid hC
  have HH := Lib.hid hH
  have HE := Lib.hid he
  clear hC hH he
  go_wp2_with fail
  refine (norm_hex w _ _ _ C ?_ ?_ ?_ ?_).mono ?_
  · exact HE.out.alloc _
  · exact HH.out.ext ((Ext.refl _).alloc _)
  · exact rdI_two (by go_simp) (by go_simp)
  · exact HC.out.ext ((Ext.refl _).alloc _)
  rintro e w2 ⟨rfl, hC, he⟩
  have HC2 := Lib.hid hC
  have HE2 := Lib.hid he
  clear hC he HC HH HE
  go_wp2_with fail
  refine (canon_hex w _ _ C ?_ ?_ ?_).mono ?_
  · exact HE2.out.alloc _
  · exact rdI_three (by go_simp) (by go_simp) (by go_simp)
  · exact HC2.out.ext ((Ext.refl _).alloc _)
  rintro e w3 ⟨D, c, rfl, hD, hC, he⟩
  have HD := Lib.hid hD
  have HC3 := Lib.hid hC
  have HE3 := Lib.hid he
  clear hC he hD HC2 HE2
  go_wp2_with fail
  refine (same_hex w _ _ _ D ?_ ?_ ?_ ?_).mono ?_
  · repeat (first | exact HE3.out | refine Ext.alloc ?_ _)
  · exact HC3.out.ext (by repeat (first | exact Ext.refl _ | refine Ext.alloc ?_ _))
  · exact fun _ => ⟨_, 0, rfl, fun i r hr => by
      match i, hr with
      | 0, hr => simp at hr; subst hr; exact ⟨.slice (some ⟨w3.heap.size, 0, none⟩) 2 2, by go_simp, slI_two (by go_simp) (by go_simp)⟩
      | 1, hr => simp at hr; subst hr; exact ⟨.slice (some ⟨w3.heap.size + 1, 0, none⟩) 2 2, by go_simp, slI_two (by go_simp) (by go_simp)⟩
      | 2, hr => simp at hr; subst hr; exact ⟨.slice (some ⟨w3.heap.size + 1 + 1, 0, none⟩) 2 2, by go_simp, slI_two (by go_simp) (by go_simp)⟩⟩
  · exact HD.out.ext (by repeat (first | exact Ext.refl _ | refine Ext.alloc ?_ _))
  rintro e w4 ⟨rfl, hD, he⟩
  have HD4 := Lib.hid hD
  have HE4 := Lib.hid he
  clear he hD HC3 HE3 HD
  go_wp2_with fail
  refine (compare_hex w _ D _ c ?_ ?_ ?_).mono ?_
  · exact HE4.out.alloc _
  · exact HD4.out.ext ((Ext.refl _).alloc _)
  · exact rdI_three (by go_simp) (by go_simp) (by go_simp)
  rintro e w5 ⟨rfl, he⟩
  have HE5 := Lib.hid he
  clear he HE4 HD4
  go_wp2_with fail
  go_ret
  exact ⟨rfl, HE5.out⟩

end Go.Proofs.Ytennjcjjegbhgaa
