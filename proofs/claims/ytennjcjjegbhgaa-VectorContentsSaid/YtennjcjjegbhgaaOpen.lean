/-
  Arguments opened: a slice of integers that came in, as a list.
-/
import Derived.Test.YtennjcjjegbhgaaMem
import Derived.ProofKit
import Derived.OpenShut
import Derived.ShutString
import Derived.ChangeOld
import Derived.Below
import Derived.SizedLaws
namespace Go.Proofs.Ytennjcjjegbhgaa
open Go.ChangeShapes Go.WideShapes Go.ChangeAt Go.RowKit

theorem Try.ownKnob_ : ownKnob Try.prog.godebug = none := by kernel_rfl
theorem Try.laidOut_ : laidOutB Try.prog = true := by kernel_rfl

theorem open_rdI {H : Type} {enc : TypeId × Value → H} {P : Program} {W : World} {base : Nat} {held : Bool} {t e : TypeId} {k : IntKind} {a : Option Addr} {len cap : Nat} {d : DataW H} {p : List MemPlace}
    (ht : P.underlying t = some (.slice e)) (he : P.underlying e = some (.int k)) (hc : P.cellsOf e = 1) (h : DataW.Trod enc P W base (fun _ => true) held t (.slice a len cap) d p) :
    ∃ zs : List Int, len = zs.length ∧ len ≤ cap ∧ cap ≤ maxLen ∧ RdI k W a zs ∧ (∀ n ∈ zs, (Lit.int k n).wf = true) ∧ ((d = .nil ∧ len = 0) ∨ ∃ spare, d = .slice (lits k zs) spare ∧ spare.length = cap - len) := by
  obtain ⟨fuel, hf⟩ := h
  rcases open_ints ht he hc hf with ⟨hcs, hx⟩ | ⟨x, l, c, zs, hcs, _, hl, hm, hz, hx, hcell, hwz⟩
  · simp [Value.cells] at hcs
    obtain ⟨rfl, rfl, rfl⟩ := hcs
    exact ⟨[], rfl, Nat.le_refl _, Nat.zero_le _, RdI.nil _ _ _, by simp, .inl ⟨(Prod.mk.inj hx).1, rfl⟩⟩
  · simp [Value.cells] at hcs
    obtain ⟨rfl, rfl, rfl⟩ := hcs
    simp at hz
    refine ⟨zs.take len, by simp; omega, hl, hm, fun hne => ?_, fun n hn => hwz n (List.mem_of_mem_take hn), .inr ⟨_, (Prod.mk.inj hx).1, by simp [lits]; omega⟩⟩
    have hlen : 0 < zs.length := by
      rcases Nat.eq_zero_or_pos zs.length with h0 | h0
      · have := List.eq_nil_of_length_eq_zero h0; subst this; simp at hne
      · exact h0
    obtain ⟨b, off, rfl, hc2⟩ := ints_at hcell hlen
    refine ⟨b, off, rfl, fun i v hv => ?_⟩
    rw [List.getElem?_map, List.getElem?_take] at hv
    split at hv
    · rename_i hi
      cases hzi : zs[i]? with
      | none => rw [hzi] at hv; cases hv
      | some z =>
        rw [hzi] at hv
        have hil := (List.getElem?_eq_some_iff.1 hzi).1
        have := hc2 i hil
        rw [this, List.getD_eq_getElem?_getD, hzi]
        simpa using hv
    · cases hv

theorem wf_i64_bd {n : Int} (h : (Lit.int .i64 n).wf = true) : -9223372036854775808 ≤ n ∧ n ≤ 9223372036854775807 := by
  have := Go.bounds_i64 h
  omega
theorem wf_i8_bd {n : Int} (h : (Lit.int .i8 n).wf = true) : -128 ≤ n ∧ n ≤ 127 := by
  simp [Lit.wf, IntKind.min, IntKind.max, IntKind.signed, IntKind.bits] at h
  omega
theorem wf_i16_bd {n : Int} (h : (Lit.int .i16 n).wf = true) : -32768 ≤ n ∧ n ≤ 32767 := by
  simp [Lit.wf, IntKind.min, IntKind.max, IntKind.signed, IntKind.bits] at h
  omega
theorem wf_u8_bd {n : Int} (h : (Lit.int .u8 n).wf = true) : 0 ≤ n ∧ n ≤ 255 := by
  have := Go.bounds_u8 h
  omega

end Go.Proofs.Ytennjcjjegbhgaa
