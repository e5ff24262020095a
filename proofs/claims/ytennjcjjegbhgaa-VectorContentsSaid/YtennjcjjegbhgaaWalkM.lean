/-
  The walk of (*sorter).sort at a nil list.
-/
import Derived.Test.YtennjcjjegbhgaaWalkL
namespace Go.Proofs.Ytennjcjjegbhgaa
open Go.RowKit

set_option maxRecDepth 100000 in
set_option maxHeartbeats 1000000 in
theorem sortFunc_nil (w : World) :
    Calls Try.prog 38 #[.slice none 0 0, .func (Fn.func 26) #[] #[]] w fun e w' => e = .returned (.tuple #[]) ∧ ∃ n, w' = w.drewN n := by
  have hl : ∀ w, Calls Try.prog 46 #[.int .u64 0] w fun e w' => e = .returned (.int .i64 0) ∧ w = w' := fun w => by
    go_enter Try.func46, Try.ntmps46
    go_wp2
    go_ret
    refine ⟨?_, rfl⟩
    show Ending.returned (.int .i64 (wrap64 (wrap64 (Lib.len8 0)))) = _
    rw [show Lib.len8 0 = 0 from by decide +kernel, IntWalk.wrap64_in 0 ⟨by omega, by omega⟩, IntWalk.wrap64_in 0 ⟨by omega, by omega⟩]
  have hi : ∀ w, Calls Try.prog 47 #[.slice none 0 0, .int .i64 0, .int .i64 0, .func (Fn.func 26) #[] #[]] w fun e w' => e = .returned (.tuple #[]) ∧ w = w' := fun w => by
    go_enter Try.func47, Try.ntmps47
    go_wp2
    refine wp_loop_rounds 1 ?_
    rw [rounds_succ]
    go_wp2
    go_end0
    exact ⟨rfl, rfl⟩
  have hp : ∀ w, Calls Try.prog 45 #[.slice none 0 0, .int .i64 0, .int .i64 0, .int .i64 0, .func (Fn.func 26) #[] #[]] w fun e w' => e = .returned (.tuple #[]) ∧ w = w' := fun w => by
    have HI := Lib.hid hi
    clear hi hl
    go_enter Try.func45, Try.ntmps45
    go_wp2_with fail
    refine wp_loop_rounds 1 ?_
    rw [rounds_succ]
    go_wp2_with (go_at_call 47; refine (HI.out _).mono ?_; rintro e w' ⟨rfl, rfl⟩)
    refine bodyPost_ret (results_none rfl _ _ _) rfl ?_
    exact ⟨rfl, rfl⟩
  have HP := Lib.hid hp
  have HLn := Lib.hid hl
  clear hp hl hi
  go_enter Try.func38, Try.ntmps38
  go_wp2_with (first | (go_at_call 46; refine (HLn.out _).mono ?_; rintro e w' ⟨rfl, rfl⟩) | (go_at_call 45; refine (HP.out _).mono ?_; rintro e w' ⟨rfl, rfl⟩))
  go_end0
  exact ⟨rfl, 0, rfl⟩

theorem compactFunc_nil (w : World) (fv : Value) :
    Calls Try.prog 39 #[.slice none 0 0, fv] w fun e w' => e = .returned (.slice none 0 0) ∧ w = w' := by
  go_enter Try.func39, Try.ntmps39
  go_wp2_with fail
  go_ret
  exact ⟨rfl, rfl⟩

set_option maxRecDepth 100000 in
set_option maxHeartbeats 2000000 in
theorem sort_nil (sx : Nat) (w : World) (hS : w.rowIs sx 54 2 (fun j => if j = 0 then .slice none 0 0 else .func (Fn.func 26) #[] #[])) :
    Calls Try.prog 30 #[.pointer (some ⟨sx, 0, none⟩)] w fun e w' =>
      e = .returned (.tuple #[]) ∧ w'.cell? ⟨sx, 0, none⟩ = some (.slice none 0 0) ∧
        (∀ k, k < w.heap.size → k ≠ sx → w'.heap[k]? = w.heap[k]?) ∧ w.heap.size ≤ w'.heap.size ∧ w'.os = w.os ∧ w'.tape = w.tape ∧ w'.output = w.output := by
  have HS := Lib.hid hS
  have hslt := hS.lt
  clear hS
  go_enter Try.func30, Try.ntmps30
  go_wp2_with fail
  have c0 : (w.alloc (.cells #[.pointer (some ⟨sx, 0, none⟩)] 67)).drew.cell? ⟨w.heap.size, 0, none⟩ = some (.pointer (some ⟨sx, 0, none⟩)) := by go_simp
  have HE0 : Hid (Ext w (w.alloc (.cells #[.pointer (some ⟨sx, 0, none⟩)] 67)).drew) := Lib.hid ((Ext.refl _).alloc _).drew
  generalize w.alloc (.cells #[.pointer (some ⟨sx, 0, none⟩)] 67) = w1 at *
  refine region_still_tail 8 (by kernel_rfl) (by kernel_rfl) ?_
  simp only [List.take_succ_cons, List.take_zero, List.drop_succ_cons, List.drop_zero]
  generalize w1.drew = w2 at *
  have s0 : w2.cell? ⟨sx, 0, none⟩ = some (.slice none 0 0) := (rowIs_ext HS.out HE0.out).cell (by omega)
  have s1 : w2.cell? ⟨sx, 1, none⟩ = some (.func (Fn.func 26) #[] #[]) := (rowIs_ext HS.out HE0.out).cell (by omega)
  iterate 8 still_step
  refine wpStill_nil ?_
  have HC := Lib.hid (sortFunc_nil w2)
  clear s1
  go_wp2_with fail
  refine HC.out.mono ?_
  rintro e w3 ⟨rfl, n, rfl⟩
  have HE3 := Lib.hid (HE0.out.drewN n)
  have d0 : (w2.drewN n).cell? ⟨w.heap.size, 0, none⟩ = some (.pointer (some ⟨sx, 0, none⟩)) := c0
  have d1 : (w2.drewN n).cell? ⟨sx, 0, none⟩ = some (.slice none 0 0) := s0
  have d2 : (w2.drewN n).frozen? ⟨sx, 0, none⟩ = false := (rowIs_ext HS.out HE3.out).frozen 0
  clear HC s0 c0 HE0
  generalize w2.drewN n = w3 at *
  have HC : Hid (∀ (w : World) (fv : Value), Calls Try.prog 39 #[.slice none 0 0, fv] w fun e w' => e = .returned (.slice none 0 0) ∧ w = w') := Lib.hid compactFunc_nil
  go_wp2_with fail
  go_region_law (go_simp; go_at_call 39; refine (HC.out _ _).mono ?_; rintro e w5 ⟨rfl, rfl⟩)
  all_goals
    go_wp2_with fail
    go_end0
    refine ⟨rfl, ?_, fun k hk hks => ?_, ?_, HE3.out.os, HE3.out.tape, HE3.out.output⟩
    · exact (((rowIs_ext HS.out HE3.out).drew.set 0 (.slice none 0 0)).cell (i := 0) (by omega))
    · show ((w3.drew.setCell ⟨sx, 0, none⟩ (.slice none 0 0)).heap[k]?) = _
      rw [Below.heap_setCell _ _ _ _ hks]
      exact HE3.out.block k hk
    · have := HE3.out.size
      simpa [World.setCell, World.drew] using this

end Go.Proofs.Ytennjcjjegbhgaa
