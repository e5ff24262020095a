/-
  The walks of slices.Clone, slices.IndexFunc and vector.CanonicalSign.
-/
import Derived.Test.YtennjcjjegbhgaaWalkB
import Derived.Test.YtennjcjjegbhgaaApp
namespace Go.Proofs.Ytennjcjjegbhgaa
open Go.RowKit

theorem Try.inI64 : (Try.prog.info? 2).map (fun i => (i.zero, i.size, i.bytes)) = some (some (.int .i64 0), 1, 8) := by kernel_rfl

set_option maxHeartbeats 400000 in
theorem cloneI_any (A : Option Addr) (c : Nat) (x : List Int) (w : World) (hx : RdI .i64 w A x) (hl : x.length * 8 ≤ 140737488355328) :
    Calls Try.prog 22 #[.slice A x.length c] w fun e w' => ∃ v, e = .returned v ∧ w'.ownsRow w.heap.size 2 1 v x.length (x.map (Value.int .i64)) ∧ Ext w w' := by
  have hnil := fun (w : World) (n c : Nat) => Lib.run_eql_slice_nil (P := Try.prog) w 22 2 A n c 0 0 Try.underlying22
  cases A with
  | none =>
    have hx0 : x = [] := by
      cases x with
      | nil => rfl
      | cons a l => obtain ⟨_, _, h, _⟩ := hx (by simp); cases h
    subst hx0
    go_enter Try.func22, Try.ntmps22
    go_wp2_with fail
    go_ret
    exact ⟨_, rfl, World.ownsRow_nil _ _ _ _, Ext.refl _⟩
  | some a =>
    go_enter Try.func22, Try.ntmps22
    go_wp2_with (at_builtin; refine wpList_append_rd _ rfl (.tmp 5) (.tmp 6) _ rfl w.heap.size 2 (.int .i64 0) 1 8 Try.underlying22 Try.inI64 rfl (by omega) _ 0 [] rfl (World.ownsRow_made w #[] 0 (Nat.le_refl _) (Nat.zero_le _) rfl) (some a) x.length c _ rfl (Rd.ext hx ((Ext.refl _).alloc _)) (by simp) oneCell_ints (by simp only [maxLen]; omega) (by omega) (by simp) ?_; intro v1 w1 hown1 hg1 _)
    go_ret
    exact ⟨_, rfl, by simpa using hown1, grown_ext hg1 (World.ownsRow_made w #[] 0 (Nat.le_refl _) (Nat.zero_le _) rfl : World.ownsRow _ w.heap.size 2 1 _ 0 []) ((Ext.refl w).alloc _) (Nat.le_refl _)⟩

/-- The index of the first entry that is not 0; -1 if there is none. -/
def idxNZ (x : List Int) : Int := match x.findIdx? (fun c => c != 0) with | some i => i | none => -1
theorem idxNZ_at {x : List Int} {k : Nat} {a : Int} (h : ∀ j c, j < k → x[j]? = some c → c = 0) (hk : x[k]? = some a) (ha : (a != 0) = true) : idxNZ x = k := by
  unfold idxNZ
  have : x.findIdx? (fun c => c != 0) = some k := by
    rw [List.findIdx?_eq_some_iff_getElem]
    obtain ⟨hlt, rfl⟩ := List.getElem?_eq_some_iff.1 hk
    exact ⟨hlt, ha, fun j hj => by simp [h j x[j] hj (List.getElem?_eq_getElem (by omega))]⟩
  rw [this]
theorem idxNZ_none {x : List Int} {k : Nat} (h : ∀ j c, j < k → x[j]? = some c → c = 0) (hk : x.length ≤ k) : idxNZ x = -1 := by
  unfold idxNZ
  have : x.findIdx? (fun c => c != 0) = none := by
    rw [List.findIdx?_eq_none_iff]
    intro c hc
    obtain ⟨j, hj, rfl⟩ := List.getElem_of_mem hc
    simp [h j _ (by omega) (List.getElem?_eq_getElem hj)]
  rw [this]

theorem InB_bounds {x : List Int} (h : InB x = true) {k : Nat} {c : Int} (hk : x[k]? = some c) : -1099511627776 ≤ c ∧ c ≤ 1099511627776 := by
  unfold InB at h
  rw [List.all_eq_true] at h
  have := h c (List.mem_of_getElem? hk)
  simp at this
  exact this

theorem canon1_any (a : Int) (w : World) :
    Calls Try.prog 21 #[.int .i64 a] w fun e w' => e = .returned (.bool (a != 0)) ∧ w = w' := by
  go_enter Try.func21, Try.ntmps21
  go_wp2_with fail
  go_ret
  exact ⟨rfl, rfl⟩

set_option maxHeartbeats 400000 in
theorem indexFunc_any (A : Option Addr) (c : Nat) (x : List Int) (w : World) (hx : RdI .i64 w A x) (lx : x.length ≤ 9223372036854775807) :
    Calls Try.prog 20 #[.slice A x.length c, .func (Fn.func 21) #[] #[]] w fun e w' => e = .returned (.int .i64 (idxNZ x)) ∧ w = w' := by
  have HX := Lib.hid hx
  clear hx
  go_enter Try.func20, Try.ntmps20
  go_wp2_with fail
  go_loop [8, 5] (fun i _ => ∃ k : Nat, k ≤ x.length ∧ i = .int .i64 k ∧ Hid (∀ j c, j < k → x[j]? = some c → c = 0)) (fun i _ => x.length - (intOf i).toNat)
  case atStart => exact ⟨0, Nat.zero_le _, rfl, Lib.hid (fun j c h => by omega)⟩
  case round =>
    obtain ⟨k, hk, rfl, HR⟩ := hrel
    by_cases hlt : k < x.length
    · obtain ⟨a, ha⟩ := getElem?_of_lt hlt
      obtain ⟨b, off, rfl, hc⟩ := HX.out.at_ ha
      have HA := Lib.hid ha
      clear ha
      by_cases h0 : (a != 0) = true
      · go_wp2_with (go_at_call 21; refine (canon1_any _ _).mono ?_; rintro e w' ⟨rfl, rfl⟩)
        go_ret
        exact ⟨ret_int (idxNZ_at HR.out HA.out h0).symm, rfl⟩
      · have h0' : (a != 0) = false := by simpa using h0
        have H0 := Lib.hid h0'
        clear h0
        go_wp2_with (go_at_call 21; refine (canon1_any _ _).mono ?_; rintro e w' ⟨rfl, rfl⟩)
        go_round
        case rel => exact ⟨k + 1, by omega, by go_num, Lib.hid (upto_succ (P := fun c => c = 0) HR.out HA.out (by simpa using H0.out))⟩
        case measure => simp [intOf]; omega
    · go_wp2_with fail
      go_ret
      exact ⟨ret_int (idxNZ_none HR.out (by omega)).symm, rfl⟩

/-- What CanonicalSign gives: none for nil and false. -/
def canonS (x : List Int) : Option (List Int) :=
  if InB x then (match x.find? (fun c => c != 0) with
    | none => none
    | some c => some (if c < 0 then x.map (fun a => -a) else x)) else none

theorem idxNZ_cases (x : List Int) : (idxNZ x = -1 ∧ x.find? (fun c => c != 0) = none) ∨ ∃ (k : Nat) (a : Int), idxNZ x = k ∧ k < x.length ∧ x[k]? = some a ∧ x.find? (fun c => c != 0) = some a := by
  unfold idxNZ
  cases h : x.findIdx? (fun c => c != 0) with
  | none =>
    left
    refine ⟨rfl, ?_⟩
    rw [List.find?_eq_none]
    rw [List.findIdx?_eq_none_iff] at h
    intro c hc; simpa using h c hc
  | some k =>
    right
    rw [List.findIdx?_eq_some_iff_getElem] at h
    obtain ⟨hlt, h1, h2⟩ := h
    refine ⟨k, x[k], rfl, hlt, List.getElem?_eq_getElem hlt, ?_⟩
    rw [List.find?_eq_some_iff_getElem]
    exact ⟨h1, k, hlt, rfl, fun j hj => by simpa using h2 j hj⟩

def negF (x : List Int) (k : Nat) (f : Nat → Value) : Nat → Value := fun j => if j < k then .int .i64 (-(x.getD j 0)) else f j

def canonV (w0 w' : World) (r : Option (List Int)) (e : Ending) : Prop := match r with
  | none => e = .returned (.tuple #[.slice none 0 0, .bool false])
  | some z => ∃ A c, e = .returned (.tuple #[.slice A z.length c, .bool true]) ∧ z.length ≤ c ∧ RdI .i64 w' A z ∧ ∀ p, A = some p → w0.heap.size ≤ p.block ∧ p.block < w'.heap.size

set_option maxHeartbeats 1000000 in
theorem canonicalSign_any (A : Option Addr) (c : Nat) (x : List Int) (w : World) (hx : RdI .i64 w A x) (hl : x.length * 8 ≤ 140737488355328) :
    Calls Try.prog 10 #[.slice A x.length c] w fun e w' => canonV w w' (canonS x) e ∧ Ext w w' := by
  have HX := Lib.hid hx
  cases hI : InB x with
  | false =>
    have HF : Hid (canonS x = none) := Lib.hid (by simp [canonS, hI])
    go_enter Try.func10, Try.ntmps10
    go_wp2_with (go_at_call 19; refine (inRange_any A c x _ hx (by omega)).mono ?_; rintro e w' ⟨rfl, rfl⟩)
    go_ret2
    exact ⟨by rw [HF.out]; rfl, Ext.refl _⟩
  | true =>
    have HIB := Lib.hid hI
    rcases idxNZ_cases x with ⟨h1, h2⟩ | ⟨k, a, h1, hk, ha, h2⟩
    · have HF : Hid (canonS x = none) := Lib.hid (by simp [canonS, hI, h2])
      have HC := Lib.hid (indexFunc_any A c x w hx (by omega))
      rw [h1] at HC
      clear h1 h2
      go_enter Try.func10, Try.ntmps10
      go_wp2_with (go_at_call 19; refine (inRange_any A c x _ hx (by omega)).mono ?_; rintro e w' ⟨rfl, rfl⟩)
      refine HC.out.mono ?_
      rintro e w' ⟨rfl, rfl⟩
      go_wp2_with fail
      go_ret2
      exact ⟨by rw [HF.out]; rfl, Ext.refl _⟩
    · have HC := Lib.hid (indexFunc_any A c x w hx (by omega))
      rw [h1] at HC
      have HF : Hid (canonS x = some (if a < 0 then x.map (fun a => -a) else x)) := Lib.hid (by simp [canonS, hI, h2])
      obtain ⟨b, off, rfl, hc⟩ := hx.at_ ha
      clear h1 h2 ha
      go_enter Try.func10, Try.ntmps10
      go_wp2_with (go_at_call 19; refine (inRange_any _ c x _ hx (by omega)).mono ?_; rintro e w' ⟨rfl, rfl⟩)
      refine HC.out.mono ?_
      rintro e w' ⟨rfl, rfl⟩
      go_wp2_with fail
      refine (cloneI_any _ c x _ hx hl).mono ?_
      rintro e w1 ⟨v, rfl, hown, he⟩
      have hc1 := he.cell hc
      obtain ⟨g, cap, f, rfl, hcap, hg, hrow, hf⟩ := own_block hown (by omega)
      have HE := Lib.hid he
      have HROW := Lib.hid hrow
      have HFF := Lib.hid hf
      clear hown he hrow hf hx
      by_cases h0 : a < 0
      · go_wp2_with fail
        go_loopw [24, 6, 7] (fun i _ _ wr => ∃ l : Nat, l ≤ x.length ∧ i = .int .i64 l ∧ Hid (wr.rowIs g 2 cap (negF x l f)) ∧ Hid (Ext w wr)) (fun i _ _ _ => x.length - (intOf i).toNat)
        case atStart => exact ⟨0, Nat.zero_le _, rfl, Lib.hid (HROW.out.congr (fun j _ => by simp [negF])), HE⟩
        case round =>
          clear hc1 HROW HE
          obtain ⟨l, hl', rfl, HROW, HE⟩ := hrel
          by_cases hlt : l < x.length
          · obtain ⟨a2, ha2⟩ := getElem?_of_lt hlt
            obtain ⟨b2, off2, hbb, hc2⟩ := (HX.out.ext HE.out).at_ ha2
            cases hbb
            have hB := InB_bounds HIB.out ha2
            have t1 : wr.cell? ⟨g, l, none⟩ = some (f l) := by rw [HROW.out.cell (by omega)]; simp [negF]
            have t2 : wr.frozen? ⟨g, l, none⟩ = false := HROW.out.frozen l
            have hlc : (l : Int) < (cap : Int) := by omega
            have HA2 : Hid (x.getD l 0 = a2) := Lib.hid (by rw [List.getD_eq_getElem?_getD, ha2]; rfl)
            clear ha2
            have hB1 := hB.1
            have hB2 := hB.2
            go_wp2_with fail
            go_roundw
            case rel =>
              refine ⟨l + 1, by omega, by go_num, Lib.hid ((HROW.out.set l _).congr (fun j _ => ?_)), Lib.hid (HE.out.setCell hg _)⟩
              unfold negF
              by_cases e : j = l
              · subst e
                rw [if_pos rfl, if_pos (by omega), HA2.out]
              · rw [if_neg e]
                by_cases e2 : j < l
                · rw [if_pos e2, if_pos (by omega)]
                · rw [if_neg e2, if_neg (by omega)]
            case measure => simp [intOf]; omega
          · go_wp2_with fail
            go_ret2
            refine ⟨?_, HE.out⟩
            rw [HF.out, if_pos h0]
            refine ⟨some ⟨g, 0, none⟩, cap, by simp, by simpa using hcap, RdI.of_row HROW.out (by simpa using hcap) (fun i z hz => ?_), (by rintro p ⟨⟩; exact ⟨hg, HROW.out.lt⟩)⟩
            rw [List.getElem?_map] at hz
            cases hxi : x[i]? with
            | none => rw [hxi] at hz; cases hz
            | some a3 =>
              rw [hxi] at hz
              have hi : i < x.length := (List.getElem?_eq_some_iff.1 hxi).1
              unfold negF
              rw [if_pos (by omega), List.getD_eq_getElem?_getD, hxi]
              simp at hz
              simp [hz]
      · go_wp2_with fail
        go_ret2
        refine ⟨?_, HE.out⟩
        rw [HF.out, if_neg (by omega)]
        exact ⟨some ⟨g, 0, none⟩, cap, rfl, hcap, RdI.of_row HROW.out hcap (fun i z hz => HFF.out i _ (by simp [hz])), (by rintro p ⟨⟩; exact ⟨hg, HROW.out.lt⟩)⟩

end Go.Proofs.Ytennjcjjegbhgaa
