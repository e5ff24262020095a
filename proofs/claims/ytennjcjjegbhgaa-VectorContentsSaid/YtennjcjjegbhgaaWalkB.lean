/-
  The walks of vector.inRange, vector.fits, lll.isSmall, lll.isShortened.
-/
import Derived.Test.YtennjcjjegbhgaaMem
namespace Go.Proofs.Ytennjcjjegbhgaa
open Go.RowKit

def InB (x : List Int) : Bool := x.all fun c => decide (-1099511627776 ≤ c) && decide (c ≤ 1099511627776)
theorem InB_false {x : List Int} {k : Nat} {c : Int} (h : x[k]? = some c) (hc : c < -1099511627776 ∨ 1099511627776 < c) : InB x = false := by
  unfold InB; rw [List.all_eq_false]; exact ⟨c, List.mem_of_getElem? h, by simp; omega⟩
theorem InB_true {x : List Int} {k : Nat} (hk : x.length ≤ k) (h : ∀ j c, j < k → x[j]? = some c → -1099511627776 ≤ c ∧ c ≤ 1099511627776) : InB x = true := by
  unfold InB; rw [List.all_eq_true]; intro c hc
  obtain ⟨j, hj, rfl⟩ := List.getElem_of_mem hc
  have := h j _ (by omega) (List.getElem?_eq_getElem hj)
  simp; omega
theorem upto_succ {α : Type} {x : List α} {k : Nat} {P : α → Prop} {c : α} (h : ∀ j c, j < k → x[j]? = some c → P c) (hk : x[k]? = some c) (hc : P c) : ∀ j c, j < k + 1 → x[j]? = some c → P c := by
  intro j d hj hd
  by_cases e : j = k
  · subst e; rw [hk] at hd; cases hd; exact hc
  · exact h j d (by omega) hd

set_option maxHeartbeats 400000 in
theorem inRange_any (A : Option Addr) (c : Nat) (x : List Int) (w : World) (hx : RdI .i64 w A x) (lx : x.length ≤ 9223372036854775807) :
    Calls Try.prog 19 #[.slice A x.length c] w fun e w' => e = .returned (.bool (InB x)) ∧ w = w' := by
  have HX := Lib.hid hx
  clear hx
  go_enter Try.func19, Try.ntmps19
  go_wp2_with fail
  go_loop [7, 4] (fun i _ => ∃ k : Nat, k ≤ x.length ∧ i = .int .i64 k ∧ Hid (∀ j c, j < k → x[j]? = some c → -1099511627776 ≤ c ∧ c ≤ 1099511627776)) (fun i _ => x.length - (intOf i).toNat)
  case atStart => exact ⟨0, Nat.zero_le _, rfl, Lib.hid (fun j c h => by omega)⟩
  case round =>
    obtain ⟨k, hk, rfl, HR⟩ := hrel
    by_cases hlt : k < x.length
    · obtain ⟨a, ha⟩ := getElem?_of_lt hlt
      obtain ⟨b, off, rfl, hc⟩ := HX.out.at_ ha
      have HA := Lib.hid ha
      clear ha
      by_cases h1 : a < -1099511627776
      · go_wp2_with fail
        go_ret
        exact ⟨ret_bool (InB_false HA.out (.inl h1)).symm, rfl⟩
      · by_cases h2 : 1099511627776 < a
        · go_wp2_with fail
          go_ret
          exact ⟨ret_bool (InB_false HA.out (.inr h2)).symm, rfl⟩
        · go_wp2_with fail
          go_round
          case rel => exact ⟨k + 1, by omega, by go_num, Lib.hid (upto_succ (P := fun c => -1099511627776 ≤ c ∧ c ≤ 1099511627776) HR.out HA.out (by omega))⟩
          case measure => simp [intOf]; omega
    · go_wp2_with fail
      go_ret
      exact ⟨ret_bool (InB_true (by omega) HR.out).symm, rfl⟩

def FitB (n : Int) (x : List Int) : Bool := decide ((x.length : Int) = n) && InB x
theorem fits_any (n : Int) (A : Option Addr) (c : Nat) (x : List Int) (w : World) (hx : RdI .i64 w A x) (lx : x.length ≤ 9223372036854775807) :
    Calls Try.prog 27 #[.int .i64 n, .slice A x.length c] w fun e w' => e = .returned (.bool (FitB n x)) ∧ w = w' := by
  by_cases h : (x.length : Int) = n
  · have hB : ((x.length : Int) == n) = true := by simp [h]
    go_enter Try.func27, Try.ntmps27
    have HH := Lib.hid h
    clear h
    go_wp2_with (go_at_call 19; refine (inRange_any A c x _ hx lx).mono ?_; rintro e w' ⟨rfl, rfl⟩)
    go_ret
    exact ⟨ret_bool (by simp [FitB, HH.out]), rfl⟩
  · have hB : ((x.length : Int) == n) = false := by simp [h]
    go_enter Try.func27, Try.ntmps27
    go_wp2_with fail
    go_ret
    exact ⟨ret_bool (by simp [FitB, h]), rfl⟩

def ent (rows : List (List Int)) (i j : Nat) : Int := (rows.getD i []).getD j 0
theorem ent_of {rows : List (List Int)} {i j : Nat} {r : List Int} {a : Int} (h : rows[i]? = some r) (h' : r[j]? = some a) : ent rows i j = a := by
  simp [ent, List.getD_eq_getElem?_getD, h, h']

def SmallE (rows : List (List Int)) (i j : Nat) : Prop := ent rows i j = ent rows j i ∧ -262144 < ent rows i j ∧ ent rows i j < 262144
def SmallP (rows : List (List Int)) : Prop :=
  1 ≤ rows.length ∧ rows.length ≤ 8 ∧ (∀ i, i < rows.length → (rows.getD i []).length = rows.length) ∧ ∀ i, i < rows.length → ∀ j, j < rows.length → SmallE rows i j
instance (rows : List (List Int)) (i j : Nat) : Decidable (SmallE rows i j) := inferInstanceAs (Decidable (_ ∧ _))
instance (rows : List (List Int)) : Decidable (SmallP rows) := inferInstanceAs (Decidable (_ ∧ _ ∧ _ ∧ _))

theorem ret_dec {p : Prop} [Decidable p] (h : p) : Ending.returned (.bool true) = .returned (.bool (decide p)) := by simp [h]
theorem ret_undec {p : Prop} [Decidable p] (h : ¬ p) : Ending.returned (.bool false) = .returned (.bool (decide p)) := by simp [h]

set_option maxHeartbeats 1000000 in
theorem isSmall_any (A : Option Addr) (c : Nat) (rows : List (List Int)) (w : World) (hx : RdM .i64 w A rows) (lx : rows.length ≤ 9223372036854775807) :
    Calls Try.prog 33 #[.slice A rows.length c] w fun e w' => e = .returned (.bool (decide (SmallP rows))) ∧ w = w' := by
  have HX := Lib.hid hx
  clear hx
  go_enter Try.func33, Try.ntmps33
  by_cases hn1 : rows.length < 1
  · go_wp2_with fail
    go_ret
    exact ⟨ret_undec (fun h => by have := h.1; omega), rfl⟩
  by_cases hn8 : 8 < rows.length
  · go_wp2_with fail
    go_ret
    exact ⟨ret_undec (fun h => by have := h.2.1; omega), rfl⟩
  go_wp2_with fail
  go_loop [20, 5] (fun i _ => ∃ k : Nat, k ≤ rows.length ∧ i = .int .i64 k ∧ Hid (∀ i, i < k → (rows.getD i []).length = rows.length)) (fun i _ => rows.length - (intOf i).toNat)
  case atStart => exact ⟨0, Nat.zero_le _, rfl, Lib.hid (fun j h => by omega)⟩
  case round =>
    obtain ⟨k, hk, rfl, HR⟩ := hrel
    by_cases hlt : k < rows.length
    · obtain ⟨r, ha⟩ := getElem?_of_lt hlt
      obtain ⟨b, off, B, cr, rfl, hc, hcr, hlr, hr⟩ := HX.out.at_ ha
      have HA := Lib.hid ha
      clear ha hr
      by_cases h1 : r.length = rows.length
      · have h1' : ((r.length : Int) != (rows.length : Int)) = false := by simp [h1]
        have H1 := Lib.hid h1
        clear h1
        go_wp2_with fail
        go_round
        case rel => 
          exact ⟨k + 1, by omega, by go_num, Lib.hid (fun i hi => by
            by_cases e : i = k
            · subst e; rw [List.getD_eq_getElem?_getD, HA.out]; exact H1.out
            · exact HR.out i (by omega))⟩
        case measure => simp [intOf]; omega
      · have h1' : ((r.length : Int) != (rows.length : Int)) = true := by simp; omega
        go_wp2_with fail
        go_ret
        exact ⟨ret_undec (fun h => by have := h.2.2.1 k hlt; rw [List.getD_eq_getElem?_getD, HA.out] at this; exact h1 this), rfl⟩
    · have HL : Hid (∀ i, i < rows.length → (rows.getD i []).length = rows.length) := Lib.hid (fun i hi => HR.out i (by omega))
      clear HR
      go_wp2_with fail
      go_loop [31, 6, 7, 8, 9] (fun i _ _ _ _ => ∃ k : Nat, k ≤ rows.length ∧ i = .int .i64 k ∧ Hid (∀ i, i < k → ∀ j, j < rows.length → SmallE rows i j)) (fun i _ _ _ _ => rows.length - (intOf i).toNat)
      case atStart => exact ⟨0, Nat.zero_le _, rfl, Lib.hid (fun j h => by omega)⟩
      case round =>
        obtain ⟨k, hk, rfl, HR⟩ := hrel
        by_cases hlt : k < rows.length
        · obtain ⟨r, ha⟩ := getElem?_of_lt hlt
          obtain ⟨b, off, B, cr, rfl, hc, hcr, hlr, hr⟩ := HX.out.at_ ha
          have hrl : r.length = rows.length := by have := HL.out k hlt; rw [List.getD_eq_getElem?_getD, ha] at this; exact this
          have HA := Lib.hid ha
          have HRR := Lib.hid hr
          have HRL := Lib.hid hrl
          clear ha hr hrl
          go_wp2_with fail
          go_loop [38, 8, 9] (fun i _ _ => ∃ l : Nat, l ≤ rows.length ∧ i = .int .i64 l ∧ Hid (∀ j, j < l → SmallE rows k j)) (fun i _ _ => rows.length - (intOf i).toNat)
          case atStart => exact ⟨0, Nat.zero_le _, rfl, Lib.hid (fun j h => by omega)⟩
          case round =>
            obtain ⟨l, hl, rfl, HQ⟩ := hrel
            by_cases hll : l < rows.length
            · obtain ⟨a, ha⟩ := getElem?_of_lt (l := r) (k := l) (by rw [HRL.out]; exact hll)
              obtain ⟨b2, off2, rfl, hc2⟩ := HRR.out.at_ ha
              have HA2 := Lib.hid ha
              clear ha
              obtain ⟨r3, ha3⟩ := getElem?_of_lt hll
              obtain ⟨b3, off3, B3, cr3, h33, hc3, hcr3, hlr3, hr3⟩ := HX.out.at_ ha3
              cases h33
              have hrl3 : r3.length = rows.length := by have := HL.out l hll; rw [List.getD_eq_getElem?_getD, ha3] at this; exact this
              obtain ⟨a4, ha4⟩ := getElem?_of_lt (l := r3) (k := k) (by rw [hrl3]; exact hlt)
              obtain ⟨b4, off4, rfl, hc4⟩ := hr3.at_ ha4
              have hlr4 : k < r3.length := by omega
              have hlr5 : l < r.length := by rw [HRL.out]; exact hll
              have HA3 := Lib.hid ha3
              have HA4 := Lib.hid ha4
              have E1 := Lib.hid (ent_of HA.out HA2.out)
              have E2 := Lib.hid (ent_of HA3.out HA4.out)
              clear ha3 hr3 hrl3 ha4
              by_cases g1 : a = a4
              · have g1' : (a != a4) = false := by simp [g1]
                have G1 := Lib.hid g1
                clear g1
                by_cases g2 : a ≤ -262144
                · go_wp2_with fail
                  go_ret
                  exact ⟨ret_undec (fun h => by have := h.2.2.2 k hlt l hll; unfold SmallE at this; rw [E1.out] at this; omega), rfl⟩
                · by_cases g3 : 262144 ≤ a
                  · go_wp2_with fail
                    go_ret
                    exact ⟨ret_undec (fun h => by have := h.2.2.2 k hlt l hll; unfold SmallE at this; rw [E1.out] at this; omega), rfl⟩
                  · go_wp2_with fail
                    go_round
                    case rel =>
                      exact ⟨l + 1, by omega, by go_num, Lib.hid (fun j hj => by
                        by_cases e : j = l
                        · subst e; unfold SmallE; rw [E1.out, E2.out, ← G1.out]; omega
                        · exact HQ.out j (by omega))⟩
                    case measure => simp [intOf]; omega
              · have g1' : (a != a4) = true := by simp [g1]
                go_wp2_with fail
                go_ret
                exact ⟨ret_undec (fun h => by have := h.2.2.2 k hlt l hll; unfold SmallE at this; rw [E1.out, E2.out] at this; exact g1 this.1), rfl⟩
            · have hd : ((l : Int) < (r.length : Int)) = False := by rw [HRL.out]; simp; omega
              have hle : r.length ≤ l := by rw [HRL.out]; omega
              clear hd
              go_wp2_with fail
              go_round
              case rel =>
                exact ⟨k + 1, by omega, by go_num, Lib.hid (fun i hi j hj => by
                  by_cases e : i = k
                  · subst e; exact HQ.out j (by omega)
                  · exact HR.out i (by omega) j hj)⟩
              case measure => simp [intOf]; omega
        · go_wp2_with fail
          go_ret
          exact ⟨ret_dec ⟨by omega, by omega, HL.out, fun i hi j hj => HR.out i (by omega) j hj⟩, rfl⟩

/-- The first entry is positive and less than 2^16, and at least twice the absolute value of each entry below it (with int64's wraparound). -/
def ShortE (rows : List (List Int)) (i : Nat) : Prop := wrap64 (2 * ent rows i 0) ≤ ent rows 0 0 ∧ wrap64 (-2 * ent rows i 0) ≤ ent rows 0 0
def ShortP (rows : List (List Int)) : Prop :=
  0 < ent rows 0 0 ∧ ent rows 0 0 < 65536 ∧ ∀ i, i < rows.length → 1 ≤ i → ShortE rows i
instance (rows : List (List Int)) (i : Nat) : Decidable (ShortE rows i) := inferInstanceAs (Decidable (_ ∧ _))
instance (rows : List (List Int)) : Decidable (ShortP rows) := inferInstanceAs (Decidable (_ ∧ _ ∧ _))

set_option maxHeartbeats 1000000 in
theorem isShortened_any (A : Option Addr) (c : Nat) (rows : List (List Int)) (w : World) (hx : RdM .i64 w A rows) (lx : rows.length ≤ 9223372036854775807) (hcap : rows.length ≤ c)
    (hn : 2 ≤ rows.length) (hne : ∀ i, i < rows.length → 1 ≤ (rows.getD i []).length) :
    Calls Try.prog 34 #[.slice A rows.length c] w fun e w' => e = .returned (.bool (decide (ShortP rows))) ∧ w = w' := by
  have HX := Lib.hid hx
  have HNE := Lib.hid hne
  clear hx hne
  obtain ⟨r, ha⟩ := getElem?_of_lt (l := rows) (k := 0) (by omega)
  obtain ⟨b, off, B, cr, rfl, hc, hcr, hlr, hr⟩ := HX.out.at_ ha
  have hrl : 1 ≤ r.length := by have := HNE.out 0 (by omega); rw [List.getD_eq_getElem?_getD, ha] at this; exact this
  obtain ⟨d, hd⟩ := getElem?_of_lt (l := r) (k := 0) hrl
  obtain ⟨b2, off2, rfl, hc2⟩ := hr.at_ hd
  have E0 := Lib.hid (ent_of ha hd)
  clear ha hd hr
  rw [Nat.add_zero] at hc hc2
  go_enter Try.func34, Try.ntmps34
  by_cases g1 : d ≤ 0
  · go_wp2_with fail
    go_ret
    exact ⟨ret_undec (fun h => by have := h.1; rw [E0.out] at this; omega), rfl⟩
  by_cases g2 : 65536 ≤ d
  · go_wp2_with fail
    go_ret
    exact ⟨ret_undec (fun h => by have := h.2.1; rw [E0.out] at this; omega), rfl⟩
  go_wp2_with fail
  go_loop [20, 5] (fun i _ => ∃ k : Nat, k ≤ rows.length - 1 ∧ i = .int .i64 k ∧ Hid (∀ i, i < k + 1 → 1 ≤ i → ShortE rows i)) (fun i _ => rows.length - (intOf i).toNat)
  case atStart => exact ⟨0, Nat.zero_le _, rfl, Lib.hid (fun j h h' => by omega)⟩
  case round =>
    obtain ⟨k, hk, rfl, HR⟩ := hrel
    by_cases hlt : k < rows.length - 1
    · obtain ⟨r3, ha3⟩ := getElem?_of_lt (l := rows) (k := k + 1) (by omega)
      obtain ⟨b3, off3, B3, cr3, h33, hc3, hcr3, hlr3, hr3⟩ := HX.out.at_ ha3
      cases h33
      rw [show off + (k + 1) = off + 1 + k from by omega] at hc3
      have hrl3 : 1 ≤ r3.length := by have := HNE.out (k + 1) (by omega); rw [List.getD_eq_getElem?_getD, ha3] at this; exact this
      obtain ⟨a, ha⟩ := getElem?_of_lt (l := r3) (k := 0) hrl3
      obtain ⟨b4, off4, rfl, hc4⟩ := hr3.at_ ha
      rw [Nat.add_zero] at hc4
      have E1 := Lib.hid (ent_of ha3 ha)
      clear ha3 hr3 ha
      by_cases g3 : d < wrap64 (2 * a)
      · go_wp2_with fail
        go_ret
        exact ⟨ret_undec (fun h => by have := h.2.2 (k + 1) (by omega) (by omega); unfold ShortE at this; rw [E0.out, E1.out] at this; omega), rfl⟩
      · by_cases g4 : d < wrap64 (-2 * a)
        · go_wp2_with fail
          go_ret
          exact ⟨ret_undec (fun h => by have := h.2.2 (k + 1) (by omega) (by omega); unfold ShortE at this; rw [E0.out, E1.out] at this; omega), rfl⟩
        · go_wp2_with fail
          go_round
          case rel =>
            exact ⟨k + 1, by omega, by go_num, Lib.hid (fun i hi hi' => by
              by_cases e : i = k + 1
              · subst e; unfold ShortE; rw [E0.out, E1.out]; omega
              · exact HR.out i (by omega) hi')⟩
          case measure => simp [intOf]; omega
    · go_wp2_with fail
      go_ret
      exact ⟨ret_dec ⟨by rw [E0.out]; omega, by rw [E0.out]; omega, fun i hi hi' => HR.out i (by omega) hi'⟩, rfl⟩

end Go.Proofs.Ytennjcjjegbhgaa
