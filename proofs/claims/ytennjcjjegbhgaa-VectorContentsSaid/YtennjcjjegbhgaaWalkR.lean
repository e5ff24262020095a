/-
  The walks of quadformmake.Vector, quadformref09.inside and quadformref09.CanonicalSign.
-/
import Derived.Test.YtennjcjjegbhgaaWalkQ
import Derived.Test.YtennjcjjegbhgaaWalkG
namespace Go.Proofs.Ytennjcjjegbhgaa
open Go.RowKit

/-- The list that quadformmake.Vector makes. -/
def vecM (l : List Int) (n : Nat) : List Int := (List.range n).map fun i => l.getD i 0
theorem vecM_length (l : List Int) (n : Nat) : (vecM l n).length = n := by simp [vecM]
theorem vecM_bd {l : List Int} {n : Nat} (hb : ∀ z ∈ l, -128 ≤ z ∧ z ≤ 127) : ∀ z ∈ vecM l n, -128 ≤ z ∧ z ≤ 127 := by
  intro z hz
  simp [vecM] at hz
  obtain ⟨i, _, rfl⟩ := hz
  cases h : l[i]? with
  | none => simp
  | some y => simp; exact hb y (List.mem_of_getElem? h)
def vecF (l : List Int) (k : Nat) : Nat → Value := fun j => if j < k then .int .i64 (l.getD j 0) else .int .i64 0

set_option maxRecDepth 100000 in
set_option maxHeartbeats 1000000 in
theorem vector_any (A : Option Addr) (c : Nat) (l : List Int) (n : Nat) (w : World) (hl : RdI .i8 w A l) (hb : ∀ z ∈ l, -128 ≤ z ∧ z ≤ 127) (ll : l.length ≤ 9223372036854775807) (hn : n ≤ 65536) :
    Calls Try.prog 9 #[.slice A l.length c, .int .i64 n] w fun e w' => e = .returned (.slice (some ⟨w.heap.size + 1, 0, none⟩) n n) ∧ w'.rowIs (w.heap.size + 1) 2 n (vecF l n) ∧ Ext w w' := by
  have HL := Lib.hid hl
  have HB := Lib.hid hb
  have HN : Hid (l ≠ [] → ∀ p, A = some p → p.block < w.heap.size) := Lib.hid (fun hne p hp => by
    obtain ⟨b, off, h1, h2⟩ := hl (by simpa using hne)
    cases l with
    | nil => exact absurd rfl hne
    | cons z l =>
      have := cell_lt (h2 0 _ rfl)
      rw [h1] at hp; cases hp; exact this)
  clear hl hb
  have hmk := run_make_row' (P := Try.prog) 22 2 (.int .i64 0) 8 Try.underlying22 Try.inI64 rfl .i64 .i64 n (by omega) (by omega)
  go_enter Try.func9, Try.ntmps9
  go_wp2_with fail
  clear hmk
  go_loopw [15, 7] (fun i _ wr => ∃ k : Nat, k ≤ n ∧ i = .int .i64 k ∧ Hid (wr.rowIs w.heap.size 43 2 (tapF (.slice A l.length c) (min k l.length))) ∧ Hid (wr.rowIs (w.heap.size + 1) 2 n (vecF l k)) ∧ Hid (Ext w wr)) (fun i _ _ => n - (intOf i).toNat)
  case atStart =>
    refine ⟨0, Nat.zero_le _, rfl, Lib.hid ?_, Lib.hid ?_, Lib.hid (((Ext.refl _).alloc _).alloc _)⟩
    · refine World.rowIs.alloc (World.rowIs_alloc w #[.slice A l.length c, .int .i64 0] _ _ (fun i hi => ?_)) _
      match i, hi with
      | 0, _ => rfl
      | 1, _ => simp [tapF]
    · have := World.rowIs_made (w.alloc (.cells #[.slice A l.length c, .int .i64 0] 43)) (.int .i64 0) n 2
      have h2 := this.congr (g := vecF l 0) (fun j _ => by simp [vecF])
      simpa using h2
  case round =>
    obtain ⟨k, hk, rfl, HT, HV, HE⟩ := hrel
    by_cases hlt : k < n
    · have HC := Lib.hid (next_any w.heap.size A c l (min k l.length) wr (HL.out.ext HE.out) HB.out ll (by omega) HT.out (fun hne p hp => by have := HN.out hne p hp; omega))
      go_wp2_with fail
      refine HC.out.mono ?_
      rintro e w1 ⟨rfl, hT, hG⟩
      have HT1 := Lib.hid hT
      have HG := Lib.hid hG
      have hlt1 := HV.out.lt
      have hv1 : w1.rowIs (w.heap.size + 1) 2 n (vecF l k) := HV.out.of_block (hG.block _ hlt1 (fun e => by injection e with e; omega))
      have HV1 := Lib.hid hv1
      have t1 : w1.cell? ⟨w.heap.size + 1, k, none⟩ = some (.int .i64 0) := by rw [hv1.cell hlt]; simp [vecF]
      have t2 : w1.frozen? ⟨w.heap.size + 1, k, none⟩ = false := hv1.frozen k
      clear hT hG hv1 HC
      go_wp2_with fail
      go_roundw
      case rel =>
        refine ⟨k + 1, by omega, by go_num, Lib.hid ?_, Lib.hid ?_, Lib.hid ((HE.out.grown HG.out (fun j hj => by injection hj with hj; omega)).setCell (by show w.heap.size ≤ w.heap.size + 1; omega) _)⟩
        · have := HT1.out.setOther (a := ⟨w.heap.size + 1, k, none⟩) (by show w.heap.size ≠ w.heap.size + 1; omega) (.int .i64 (l.getD (min k l.length) 0))
          have e : nextAt l (min k l.length) = min (k + 1) l.length := by unfold nextAt; split <;> omega
          rw [e] at this
          exact this
        · refine (HV1.out.set k _).congr (fun j hj => ?_)
          unfold vecF
          by_cases e : j = k
          · subst e
            rw [if_pos rfl, if_pos (by omega)]
            congr 1
            simp only [List.getD_eq_getElem?_getD]
            by_cases h : j < l.length
            · rw [show min j l.length = j from by omega]
            · rw [List.getElem?_eq_none (l := l) (i := min j l.length) (by omega), List.getElem?_eq_none (l := l) (i := j) (by omega)]
          · rw [if_neg e]
            by_cases h : j < k
            · rw [if_pos h, if_pos (by omega)]
            · rw [if_neg h, if_neg (by omega)]
      case measure => simp [intOf]; omega
    · have hkn : k = n := by omega
      have HK := Lib.hid hkn
      clear hkn
      go_wp2_with fail
      go_ret
      refine ⟨rfl, ?_, HE.out⟩
      rw [← HK.out]
      have := HV.out
      rw [← HK.out] at this
      exact this

theorem vec_rd {w : World} {b : Nat} {t n : Nat} {l : List Int} (h : w.rowIs b t n (vecF l n)) : RdI .i64 w (some ⟨b, 0, none⟩) (vecM l n) :=
  RdI.of_row h (by rw [vecM_length]; exact Nat.le_refl _) (fun i z hz => by
    have hi := (List.getElem?_eq_some_iff.1 hz).1
    rw [vecM_length] at hi
    unfold vecF
    rw [if_pos hi]
    simp [vecM, hi] at hz
    rw [List.getD_eq_getElem?_getD, hz])

set_option maxHeartbeats 400000 in
theorem inside_any (A : Option Addr) (c : Nat) (x : List Int) (w : World) (hx : RdI .i64 w A x) (lx : x.length ≤ 9223372036854775807) :
    Calls Try.prog 23 #[.slice A x.length c] w fun e w' => e = .returned (.bool (InB x)) ∧ w = w' := by
  have HX := Lib.hid hx
  clear hx
  go_enter Try.func23, Try.ntmps23
  go_wp2_with fail
  go_loop [7, 4] (fun i _ => ∃ k : Nat, k ≤ x.length ∧ i = .int .i64 k ∧ Hid (∀ j c, j < k → x[j]? = some c → -1099511627776 ≤ c ∧ c ≤ 1099511627776)) (fun i _ => x.length - (intOf i).toNat)
  case atStart => exact ⟨0, Nat.zero_le _, rfl, Lib.hid (fun j c h => by omega)⟩
  case round =>
    obtain ⟨k, hk, rfl, HR⟩ := hrel
    by_cases hlt : k < x.length
    · obtain ⟨a, ha⟩ := getElem?_of_lt hlt
      obtain ⟨b, off, rfl, hc⟩ := HX.out.at_ ha
      have HA := Lib.hid ha
      clear ha
      by_cases h1 : a < -1099511627776
      · go_wp2_with fail
        go_ret
        exact ⟨ret_bool (InB_false HA.out (.inl h1)).symm, rfl⟩
      · by_cases h2 : 1099511627776 < a
        · go_wp2_with fail
          go_ret
          exact ⟨ret_bool (InB_false HA.out (.inr h2)).symm, rfl⟩
        · go_wp2_with fail
          go_round
          case rel => exact ⟨k + 1, by omega, by go_num, Lib.hid (upto_succ (P := fun c => -1099511627776 ≤ c ∧ c ≤ 1099511627776) HR.out HA.out (by omega))⟩
          case measure => simp [intOf]; omega
    · go_wp2_with fail
      go_ret
      exact ⟨ret_bool (InB_true (by omega) HR.out).symm, rfl⟩

/-- The sign of the first entry that is not 0, seen through the first k entries. -/
def sgnK (x : List Int) : Int := match x.find? (fun c => c != 0) with | none => 0 | some c => if c < 0 then -1 else 1
theorem sgnK_snoc (x : List Int) (a : Int) : sgnK (x ++ [a]) = if sgnK x = 0 ∧ a ≠ 0 then (if a < 0 then -1 else 1) else sgnK x := by
  unfold sgnK
  rw [List.find?_append]
  cases h : x.find? (fun c => c != 0) with
  | none =>
    by_cases ha : a = 0
    · simp [ha]
    · simp [ha]
  | some c =>
    simp
    split <;> simp
theorem sgnK_cases (x : List Int) : sgnK x = 0 ∨ sgnK x = 1 ∨ sgnK x = -1 := by
  unfold sgnK
  split
  · simp
  · split <;> simp
theorem take_snoc_ {x : List Int} {k : Nat} {a : Int} (h : x[k]? = some a) : x.take (k + 1) = x.take k ++ [a] := by
  obtain ⟨h1, rfl⟩ := List.getElem?_eq_some_iff.1 h
  rw [List.take_succ_eq_append_getElem h1]
theorem canonS_sgn {x : List Int} (h : InB x = true) : canonS x = if sgnK x = 0 then none else some (x.map fun a => sgnK x * a) := by
  unfold canonS sgnK
  rw [h]
  cases hf : x.find? (fun c => c != 0) with
  | none => simp
  | some c =>
    simp only [if_true]
    by_cases hc : c < 0
    · simp [hc]
    · simp [hc]

def refV (w' : World) (r : Option (List Int)) (e : Ending) : Prop := match r with
  | none => e = .returned (.tuple #[.slice none 0 0, .bool false])
  | some z => ∃ A c, e = .returned (.tuple #[.slice A z.length c, .bool true]) ∧ z.length ≤ c ∧ RdI .i64 w' A z

set_option maxRecDepth 100000 in
set_option maxHeartbeats 1000000 in
theorem refCanon_any (A : Option Addr) (c : Nat) (x : List Int) (w : World) (hx : RdI .i64 w A x) (hl : x.length * 8 ≤ 140737488355328) :
    Calls Try.prog 11 #[.slice A x.length c] w fun e w' => refV w' (canonS x) e ∧ Ext w w' := by
  have HX := Lib.hid hx
  clear hx
  cases hI : InB x with
  | false =>
    have HF : Hid (canonS x = none) := Lib.hid (by simp [canonS, hI])
    go_enter Try.func11, Try.ntmps11
    go_wp2_with (go_at_call 23; refine (inside_any A c x _ HX.out (by omega)).mono ?_; rintro e w' ⟨rfl, rfl⟩)
    go_ret2
    exact ⟨by rw [HF.out]; rfl, Ext.refl _⟩
  | true =>
    have HIB := Lib.hid hI
    go_enter Try.func11, Try.ntmps11
    go_wp2_with (go_at_call 23; refine (inside_any A c x _ HX.out (by omega)).mono ?_; rintro e w' ⟨rfl, rfl⟩)
    clear hI
    go_loop [15, 4, 6] (fun i s _ => ∃ (k : Nat) (sg : Int), k ≤ x.length ∧ i = .int .i64 k ∧ s = .int .i64 sg ∧ -1 ≤ sg ∧ sg ≤ 1 ∧ Hid (sg = sgnK (x.take k))) (fun i _ _ => x.length - (intOf i).toNat)
    case atStart => exact ⟨0, 0, Nat.zero_le _, rfl, rfl, by omega, by omega, Lib.hid (by simp [sgnK])⟩
    case round =>
      obtain ⟨k, sg, hk, rfl, rfl, hs1, hs2, HS⟩ := hrel
      by_cases hlt : k < x.length
      · obtain ⟨a, ha⟩ := getElem?_of_lt hlt
        obtain ⟨b, off, rfl, hc⟩ := HX.out.at_ ha
        have HN : Hid (sgnK (x.take (k + 1)) = if sg = 0 ∧ a ≠ 0 then (if a < 0 then -1 else 1) else sg) := Lib.hid (by rw [take_snoc_ ha, sgnK_snoc, ← HS.out])
        clear ha
        by_cases h0 : sg = 0
        · have h0' : (sg == 0) = true := by simp [h0]
          have H0 := Lib.hid h0
          clear h0
          by_cases ha0 : a = 0
          · have ha0' : (a != 0) = false := by simp [ha0]
            have HA0 := Lib.hid ha0
            clear ha0
            go_wp2_with fail
            go_round
            case rel => exact ⟨k + 1, sg, by omega, by go_num, rfl, hs1, hs2, Lib.hid (by rw [HN.out, if_neg (by rw [HA0.out]; simp)])⟩
            case measure => simp [intOf]; omega
          · have ha0' : (a != 0) = true := by simp [ha0]
            by_cases hneg : a < 0
            · go_wp2_with fail
              go_round
              case rel => exact ⟨k + 1, -1, by omega, by go_num, rfl, by omega, by omega, Lib.hid (by rw [HN.out, if_pos ⟨H0.out, ha0⟩, if_pos hneg])⟩
              case measure => simp [intOf]; omega
            · go_wp2_with fail
              go_round
              case rel => exact ⟨k + 1, 1, by omega, by go_num, rfl, by omega, by omega, Lib.hid (by rw [HN.out, if_pos ⟨H0.out, ha0⟩, if_neg (by omega)])⟩
              case measure => simp [intOf]; omega
        · have h0' : (sg == 0) = false := by simp [h0]
          go_wp2_with fail
          go_round
          case rel => exact ⟨k + 1, sg, by omega, by go_num, rfl, hs1, hs2, Lib.hid (by rw [HN.out, if_neg (fun h => h0 h.1)])⟩
          case measure => simp [intOf]; omega
      · have HSG : Hid (sg = sgnK x) := Lib.hid (by rw [HS.out, List.take_of_length_le (by omega)])
        by_cases h0 : sg = 0
        · have h0' : (sg == 0) = true := by simp [h0]
          have HF : Hid (canonS x = none) := Lib.hid (by rw [canonS_sgn HIB.out, if_pos (by rw [← HSG.out]; exact h0)])
          clear h0
          go_wp2_with fail
          go_ret2
          exact ⟨by rw [HF.out]; rfl, Ext.refl _⟩
        · have h0' : (sg == 0) = false := by simp [h0]
          have HF : Hid (canonS x = some (x.map fun a => sg * a)) := Lib.hid (by rw [canonS_sgn HIB.out, if_neg (by rw [← HSG.out]; exact h0), ← HSG.out])
          clear h0
          go_wp2_with fail
          clear h0'
          go_loopw [32, 7, 9] (fun i v _ wr => ∃ m : Nat, m ≤ x.length ∧ i = .int .i64 m ∧ Hid (wr.ownsRow w.heap.size 2 1 v m (((x.take m).map fun a => sg * a).map (Value.int .i64))) ∧ Hid (Ext w wr)) (fun i _ _ _ => x.length - (intOf i).toNat)
          case atStart => exact ⟨0, Nat.zero_le _, rfl, Lib.hid (World.ownsRow_nil _ _ _ _), Lib.hid (Ext.refl _)⟩
          case round =>
            obtain ⟨m, hm, rfl, HO, HE⟩ := hrel
            by_cases hml : m < x.length
            · obtain ⟨a, ha⟩ := getElem?_of_lt hml
              obtain ⟨b, off, rfl, hc⟩ := (HX.out.ext HE.out).at_ ha
              have hB := InB_bounds HIB.out ha
              have hp : -1099511627776 ≤ sg * a ∧ sg * a ≤ 1099511627776 := by
                have : sg = -1 ∨ sg = 0 ∨ sg = 1 := by omega
                rcases this with h | h | h <;> rw [h] <;> omega
              have hw : wrap64 (sg * a) = sg * a := IntWalk.wrap64_in _ ⟨by omega, by omega⟩
              have HT : Hid ((((x.take m).map fun a => sg * a).map (Value.int .i64)) ++ [.int .i64 (sg * a)] = (((x.take (m + 1)).map fun a => sg * a).map (Value.int .i64))) := Lib.hid (by rw [take_snoc_ ha]; simp)
              clear ha hB hp
              go_wp2_with (at_builtin; refine wpList_append_rd _ rfl (.tmp 36) (.tmp 40) _ rfl w.heap.size 2 (.int .i64 0) 1 8 Try.underlying22 Try.inI64 rfl (by omega) _ m _ rfl (HO.out.alloc _) (some ⟨wr.heap.size, 0, none⟩) 1 1 [.int .i64 (sg * a)] rfl (fun _ => ⟨wr.heap.size, 0, rfl, fun i u hu => by match i, hu with | 0, hu => simp at hu; subst hu; go_simp⟩) rfl (by simp [Value.oneCell']) (by simp only [maxLen]; omega) (by omega) (by have := HE.out.size; simp; omega) ?_; intro v1 w1 hown1 hg1 _; have HO1 := Lib.hid hown1; have HE1 := Lib.hid (grown_ext hg1 (HO.out.alloc _) (HE.out.alloc _) (Nat.le_refl _)); clear hown1 hg1)
              go_roundw
              case rel => exact ⟨m + 1, by omega, by go_num, Lib.hid (by rw [← HT.out]; exact HO1.out), HE1⟩
              case measure => simp [intOf]; omega
            · obtain ⟨A2, c2, hv, hc2, _⟩ := ownsRow_len HO.out
              subst hv
              have hmx : m = x.length := by omega
              go_wp2_with fail
              go_ret2
              refine ⟨?_, HE.out⟩
              rw [HF.out]
              refine ⟨A2, c2, by simp [hmx], by simp; omega, ?_⟩
              have := Rd.of_own HO.out
              rw [List.take_of_length_le (by omega)] at this
              exact this

end Go.Proofs.Ytennjcjjegbhgaa
