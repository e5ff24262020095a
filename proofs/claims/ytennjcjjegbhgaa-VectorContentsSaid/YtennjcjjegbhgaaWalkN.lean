/-
  The walk of vector.SortUnique.
-/
import Derived.Test.YtennjcjjegbhgaaWalkM
import Derived.Test.YtennjcjjegbhgaaWalkH
import Derived.Laws.EntriesVeiled
namespace Go.Proofs.Ytennjcjjegbhgaa
open Go.RowKit

theorem Try.infoKeyed : (Try.prog.info? 59).map (fun i => (i.zero, i.size, i.bytes)) = some (some (.agg #[.int .i64 0, .slice none 0 0]), 2, 32) := by kernel_rfl

/-- The norm of a vector, none beyond MaxNorm. -/
def normO (rows : List (List Int)) (x : List Int) : Option Int :=
  if -4611686018427387904 ≤ accZ x (applyM rows x) x.length ∧ accZ x (applyM rows x) x.length ≤ 4611686018427387904 then some (accZ x (applyM rows x) x.length) else none
/-- What SortUnique makes of one element. -/
def itemO (rows : List (List Int)) (x : List Int) : Option (Int × List Int) :=
  if FitB rows.length x then (match normO rows x, canonS x with
    | some k, some y => some (k, y)
    | _, _ => none) else none
def itemsO (rows : List (List Int)) : List (List Int) → Option (List (Int × List Int))
  | [] => some []
  | x :: l => match itemO rows x, itemsO rows l with
    | some a, some b => some (a :: b)
    | _, _ => none
theorem itemsO_none {rows : List (List Int)} : ∀ {l : List (List Int)} {k : Nat} {x : List Int}, l[k]? = some x → itemO rows x = none → itemsO rows l = none
  | [], _, _, h, _ => by simp at h
  | a :: l, 0, x, h, h' => by simp at h; subst h; simp [itemsO, h']
  | a :: l, k + 1, x, h, h' => by
    simp at h
    have := itemsO_none h h'
    simp [itemsO, this]
def Item.dat (it : Item) : Int × List Int := (it.key, it.vals)
theorem itemsO_some {rows : List (List Int)} : ∀ {l : List (List Int)} {L : List Item}, L.length = l.length → (∀ (j : Nat) (it : Item), L[j]? = some it → ∃ x, l[j]? = some x ∧ itemO rows x = some it.dat) → itemsO rows l = some (L.map Item.dat)
  | [], [], _, _ => rfl
  | [], _ :: _, h, _ => by simp at h
  | _ :: _, [], h, _ => by simp at h
  | x :: l, it :: L, h, hh => by
    have h1 := hh 0 it rfl
    simp at h1
    have h2 := itemsO_some (rows := rows) (l := l) (L := L) (by simpa using h) (fun j it' hj => by
      obtain ⟨y, q1, q2⟩ := hh (j + 1) it' (by simpa using hj)
      exact ⟨y, by simpa using q1, q2⟩)
    simp [itemsO, h1, h2]

def flatIt (L : List Item) : List Value := L.flatMap encIt
theorem flatIt_snoc (L : List Item) (it : Item) : flatIt L ++ encIt it = flatIt (L ++ [it]) := by simp [flatIt]
theorem flatIt_at : ∀ {L : List Item} {j : Nat} {it : Item}, L[j]? = some it → (flatIt L)[j * 2]? = some (.int .i64 it.key) ∧ (flatIt L)[j * 2 + 1]? = some it.val
  | [], _, _, h => by simp at h
  | a :: L, 0, it, h => by simp at h; subst h; simp [flatIt, encIt, Item.val]
  | a :: L, j + 1, it, h => by
    simp at h
    obtain ⟨h1, h2⟩ := flatIt_at h
    have e : flatIt (a :: L) = .int .i64 a.key :: a.val :: flatIt L := by simp [flatIt, encIt, Item.val]
    rw [e, show (j + 1) * 2 = j * 2 + 1 + 1 from by omega, show j * 2 + 1 + 1 + 1 = (j * 2 + 1) + 1 + 1 from rfl]
    simp only [List.getElem?_cons_succ]
    exact ⟨h1, h2⟩
theorem oneCell_it (it : Item) : ∀ u ∈ encIt it, u.oneCell' = true := by
  intro u hu
  simp [encIt] at hu
  rcases hu with rfl | rfl <;> rfl

/-- The sorter's two cells. -/
def srtF (v : Value) : Nat → Value := fun j => if j = 0 then v else .func (Fn.func 26) #[] #[]

/-- An item's vector lies in w, outside the block of the slice v. -/
def ItemV (w : World) (sx : Nat) (v : Value) (it : Item) : Prop := RdI .i64 w it.at_ it.vals ∧ (it.vals.length ≤ 9223372036854775807 ∧ it.vals.length ≤ it.cap) ∧ ∀ p, it.at_ = some p → v.ownBlock ≠ some p.block ∧ p.block ≠ sx ∧ p.block < w.heap.size

def SUPost (w' : World) (r : Option (List (Int × List Int))) (e : Ending) : Prop := match r with
  | none => e = .returned (.tuple #[.slice none 0 0, .bool false])
  | some ks => ∃ L : List Item, (L.map Item.dat).Perm ks ∧ SortedL L ∧ ∃ A, e = .returned (.tuple #[.slice A (compact L).length (compact L).length, .bool true]) ∧ RdM .i64 w' A ((compact L).map Item.vals)

theorem dotV_some {rows : List (List Int)} {x : List Int} {k : Int} (h : normO rows x = some k) : dotV (accZ x (applyM rows x) x.length) = .tuple #[.int .i64 k, .bool true] := by
  unfold normO at h
  split at h
  · cases h; unfold dotV; rw [if_pos (by assumption)]
  · cases h
theorem dotV_none {rows : List (List Int)} {x : List Int} (h : normO rows x = none) : dotV (accZ x (applyM rows x) x.length) = .tuple #[.int .i64 0, .bool false] := by
  unfold normO at h
  split at h
  · cases h
  · unfold dotV; rw [if_neg (by assumption)]

theorem compGo_mem : ∀ {l : List Item} {p it : Item}, it ∈ compGo p l → it ∈ l
  | [], _, _, h => by simp [compGo] at h
  | b :: l, p, it, h => by
    unfold compGo at h
    split at h
    · exact List.mem_cons_of_mem _ (compGo_mem h)
    · rcases List.mem_cons.1 h with rfl | h
      · exact List.mem_cons_self
      · exact List.mem_cons_of_mem _ (compGo_mem h)
theorem compact_mem {L : List Item} {it : Item} (h : it ∈ compact L) : it ∈ L := by
  cases L with
  | nil => simp [compact] at h
  | cons a l =>
    unfold compact at h
    rcases List.mem_cons.1 h with rfl | h
    · exact List.mem_cons_self
    · exact List.mem_cons_of_mem _ (compGo_mem h)
theorem compGo_len : ∀ (l : List Item) (p : Item), (compGo p l).length ≤ l.length
  | [], _ => by simp [compGo]
  | b :: l, p => by
    unfold compGo
    have := compGo_len l b
    split
    · simp; omega
    · simp; omega
theorem compact_len (L : List Item) : (compact L).length ≤ L.length := by
  cases L with
  | nil => simp [compact]
  | cons a l => have := compGo_len l a; simp [compact]; omega

def outF (L : List Item) (m : Nat) : Nat → Value := fun j => if j < m then (match L[j]? with | some it => it.val | none => undef) else .slice none 0 0

set_option maxRecDepth 100000 in
set_option maxHeartbeats 4000000 in
theorem sortUnique_any (A B : Option Addr) (c d : Nat) (rows l : List (List Int)) (w : World) (hR : RdM .i64 w A rows) (hl : RdM .i64 w B l) (lr : rows.length ≤ 9223372036854775807) (hc : rows.length ≤ c) (ll : l.length ≤ 65536) :
    Calls Try.prog 15 #[.slice A rows.length c, .slice B l.length d] w fun e w' => SUPost w' (if isReducedM rows then itemsO rows l else none) e ∧ Ext w w' := by
  have HR := Lib.hid hR
  have HL := Lib.hid hl
  clear hR hl
  cases hI : isReducedM rows with
  | false =>
    have HV : Hid ((if isReducedM rows then itemsO rows l else none) = none) := Lib.hid (by simp [hI])
    go_enter Try.func15, Try.ntmps15
    go_wp2_with (go_at_call 25; refine (isReduced_any A c rows _ HR.out lr hc).mono ?_; rintro e w1 ⟨rfl, he⟩)
    go_ret2
    exact ⟨rfl, he⟩
  | true =>
    have HSm := Lib.hid (isReducedM_small hI)
    have h8 : rows.length ≤ 8 := HSm.out.2.1
    go_enter Try.func15, Try.ntmps15
    go_wp2_with (go_at_call 25; refine (isReduced_any A c rows _ HR.out lr hc).mono ?_; rintro e w1 ⟨rfl, he⟩; have HE := Lib.hid he; clear he)
    clear hI
    obtain ⟨wo, rfl⟩ : ∃ wo : World, wo = w1 := ⟨_, rfl⟩
    go_loopw [22, 8, 9, 10, 11, 12] (fun i _ _ _ _ _ wr => ∃ (k : Nat) (L : List Item) (v : Value), k ≤ l.length ∧ i = .int .i64 k ∧ Hid (L.length = k ∧ (k = 0 → v = .slice none 0 0)) ∧ Hid (∀ (j : Nat) (it : Item), L[j]? = some it → ∃ x, l[j]? = some x ∧ itemO rows x = some it.dat) ∧ Hid (wr.ownsRow (wo.heap.size + 1) 59 2 v k (flatIt L)) ∧ Hid (wr.rowIs wo.heap.size 54 2 (srtF v)) ∧ Hid (Ext wo wr) ∧ Hid (∀ it ∈ L, ItemV wr wo.heap.size v it)) (fun i _ _ _ _ _ _ => l.length - (intOf i).toNat)
    case atStart =>
      refine ⟨0, [], .slice none 0 0, Nat.zero_le _, rfl, Lib.hid ⟨rfl, fun _ => rfl⟩, Lib.hid (by simp), Lib.hid (World.ownsRow_nil _ _ _ _), Lib.hid ?_, Lib.hid ?_, Lib.hid (by simp)⟩
      · refine World.rowIs_alloc wo #[.slice none 0 0, .func (Fn.func 26) #[] #[]] _ _ (fun i hi => ?_)
        match i, hi with
        | 0, _ => rfl
        | 1, _ => rfl
      · exact (Ext.refl _).alloc _
    case round =>
      obtain ⟨k, L, v, hk, rfl, HLen, HIt, HOwn, HRow, HE2, HIV⟩ := hrel
      by_cases hlt : k < l.length
      · obtain ⟨x, hx⟩ := getElem?_of_lt hlt
        obtain ⟨b, off, BX, cx, rfl, hcx, hcxl, hlx, hrx⟩ := ((HL.out.ext HE.out).ext HE2.out).at_ hx
        have HX := Lib.hid hx
        have HRX := Lib.hid hrx
        clear hx hrx
        cases hF : FitB rows.length x with
        | false =>
          have HN : Hid (itemsO rows l = none) := Lib.hid (itemsO_none HX.out (by unfold itemO; rw [hF]; rfl))
          go_wp2_with (go_at_call 27; refine (fits_any rows.length BX cx x _ HRX.out hlx).mono ?_; rintro e w2 ⟨rfl, rfl⟩)
          go_ret2
          exact ⟨by rw [HN.out]; rfl, HE.out.trans HE2.out⟩
        | true =>
          obtain ⟨hxl, hxb⟩ := FitB_iff.1 hF
          have hxle : x.length ≤ rows.length := by omega
          have hxge : rows.length ≤ x.length := by omega
          have HXB := Lib.hid hxb
          have HF := Lib.hid hF
          have HA := Lib.hid (applyM_bd HSm.out hxb)
          have HAL := Lib.hid (applyM_length rows x)
          clear hxl hxb
          go_wp2_with (go_at_call 27; refine (fits_any rows.length BX cx x _ HRX.out hlx).mono ?_; rintro e w2 ⟨rfl, rfl⟩)
          clear hF
          refine (apply_any A BX c cx rows x _ ((HR.out.ext HE.out).ext HE2.out) HRX.out (by omega) (fun i hi => by rw [HSm.out.2.2.1 i hi]; exact hxge) hlx).mono ?_
          rintro e w3 ⟨rfl, hrd, he3⟩
          have hcon := dot_any BX (some ⟨wr.heap.size, 0, none⟩) cx rows.length x (applyM rows x) w3 (HRX.out.ext he3) hrd (by rw [HAL.out]; exact hxle) (by omega) (by rw [HAL.out]; omega) (fun i z hz => InB_bounds HXB.out hz) HA.out
          rw [HAL.out] at hcon
          have HC := Lib.hid hcon
          have HE3 := Lib.hid he3
          clear hcon hrd he3
          go_wp2_with fail
          cases hN : normO rows x with
          | none =>
            have hno := HC.out
            rw [dotV_none hN] at hno
            have HNone : Hid (itemsO rows l = none) := Lib.hid (itemsO_none HX.out (by unfold itemO; rw [HF.out, hN]; rfl))
            refine hno.mono ?_
            rintro e w4 ⟨rfl, he4⟩
            have HE4 := Lib.hid (HE3.out.trans he4)
            clear he4 hno HC hN
            go_wp2_with fail
            refine (canonicalSign_any BX cx x _ (HRX.out.ext HE4.out) (by omega)).mono ?_
            rintro e w5 ⟨hcv, he5⟩
            have HE5 := Lib.hid (((HE.out.trans HE2.out).trans HE4.out).trans he5)
            clear he5
            have hform : ∃ va vb, e = .returned (.tuple #[va, .bool vb]) := by
              unfold canonV at hcv
              split at hcv
              · exact ⟨_, _, hcv⟩
              · obtain ⟨A', c', h, _⟩ := hcv; exact ⟨_, _, h⟩
            obtain ⟨va, vb, rfl⟩ := hform
            clear hcv
            go_wp2_with fail
            go_ret2
            exact ⟨by rw [HNone.out]; rfl, HE5.out⟩
          | some key =>
            have hno := HC.out
            rw [dotV_some hN] at hno
            refine hno.mono ?_
            rintro e w4 ⟨rfl, he4⟩
            have HE4 := Lib.hid (HE3.out.trans he4)
            have HNo := Lib.hid hN
            clear he4 hno HC hN
            go_wp2_with fail
            refine (canonicalSign_any BX cx x _ (HRX.out.ext HE4.out) (by omega)).mono ?_
            rintro e w5 ⟨hcv, he5⟩
            have HE5 := Lib.hid (HE4.out.trans he5)
            clear he5
            cases hS : canonS x with
            | none =>
              have HNone : Hid (itemsO rows l = none) := Lib.hid (itemsO_none HX.out (by unfold itemO; rw [HF.out, HNo.out, hS]; rfl))
              rw [hS] at hcv
              obtain rfl := hcv
              clear hS
              go_wp2_with fail
              go_ret2
              exact ⟨by rw [HNone.out]; rfl, (HE.out.trans HE2.out).trans HE5.out⟩
            | some y =>
              rw [hS] at hcv
              obtain ⟨AY, cy, rfl, hcy, hry, hby⟩ := hcv
              have HIO : Hid (itemO rows x = some (key, y)) := Lib.hid (by unfold itemO; rw [HF.out, HNo.out, hS]; rfl)
              have HRY := Lib.hid hry
              have HBY := Lib.hid hby
              have HYL : Hid (y.length = x.length) := Lib.hid (by
                unfold canonS at hS
                split at hS
                · split at hS
                  · cases hS
                  · cases hS; split <;> simp
                · cases hS)
              clear hS hry hby
              have HO5 := Lib.hid (ownsRow_ext HOwn.out HE5.out)
              have HR5 := Lib.hid (rowIs_ext HRow.out HE5.out)
              have t0 : w5.cell? ⟨wo.heap.size, 0, none⟩ = some v := HR5.out.cell (by omega)
              have t1 : w5.frozen? ⟨wo.heap.size, 0, none⟩ = false := HR5.out.frozen 0
              have hslt : wo.heap.size < w5.heap.size := HR5.out.lt
              have HRd : Hid (Rd (w5.alloc (.cells #[.int .i64 key, .slice AY y.length cy] 59)) (some ⟨w5.heap.size, 0, none⟩) (encIt ⟨key, y, AY, cy⟩)) := Lib.hid (fun _ => ⟨w5.heap.size, 0, rfl, fun i u hu => by
                match i, hu with
                | 0, hu => simp [encIt] at hu; subst hu; go_simp
                | 1, hu => simp [encIt] at hu; subst hu; go_simp⟩)
              go_wp2_with (at_builtin; refine wpList_append_rd _ rfl (.tmp 51) (.tmp 55) _ rfl (wo.heap.size + 1) 59 (.agg #[.int .i64 0, .slice none 0 0]) 2 32 Try.underlying52 Try.infoKeyed rfl (by omega) v k (flatIt L) rfl (HO5.out.alloc _) (some ⟨w5.heap.size, 0, none⟩) 1 1 _ rfl HRd.out rfl (oneCell_it _) (by simp only [maxLen]; omega) (by omega) (by simp; omega) ?_; intro v6 w6 hown6 hg6 hb6; have HO6 := Lib.hid hown6; have HG6 := Lib.hid hg6; have HB6 := Lib.hid hb6; have hz6 : w5.heap.size + 1 ≤ w6.heap.size := (by have := hg6.size; simpa using this); have s0 : w6.cell? ⟨wo.heap.size, 0, none⟩ = some v := (by refine hg6.cell (a := ⟨wo.heap.size, 0, none⟩) (by rw [World.cell?_alloc_lt _ _ _ hslt]; exact t0) (fun e => ?_); have := (HO5.out.lt _ e.symm).1; simp at this; omega); have s1 : w6.frozen? ⟨wo.heap.size, 0, none⟩ = false := (by rw [World.frozen?_of_block (hg6.block wo.heap.size (by simp; omega) (fun e => by have := (HO5.out.lt _ e.symm).1; omega))]; rw [World.frozen?_of_block (Below.heap_alloc _ _ _ hslt)]; exact t1); obtain ⟨g6, cap6, f6, rfl, _, _, _, _, _⟩ := own_block2 hown6 (by omega); clear hown6 hg6 hb6 t0 t1)
              go_roundw
              case rel =>
                have hne : ∀ j, v.ownBlock = some j → wo.heap.size + 1 ≤ j := fun j hj => (HO5.out.lt j hj).1
                have hw5 : Ext wo (w5.alloc (.cells #[.int .i64 key, .slice AY y.length cy] 59)) := (HE2.out.trans HE5.out).alloc _
                have hw6 : Ext wo w6 := hw5.grown HG6.out (fun j hj => by have := hne j hj; omega)
                have hr6 : w6.rowIs wo.heap.size 54 2 (srtF v) := (HR5.out.alloc _).of_block (HG6.out.block wo.heap.size (by simp; omega) (fun e => by have := hne _ e.symm; omega))
                refine ⟨k + 1, L ++ [⟨key, y, AY, cy⟩], .slice (some ⟨g6, 0, none⟩) (k + 1) cap6, by omega, by go_num, Lib.hid ⟨by simp [HLen.out.1], fun h => by omega⟩, Lib.hid (fun j it hj => ?_), Lib.hid ?_, Lib.hid ?_, Lib.hid (hw6.setCell (Nat.le_refl _) _), Lib.hid (fun it hit => ?_)⟩
                · rcases Nat.lt_or_ge j L.length with h | h
                  · rw [List.getElem?_append_left h] at hj
                    exact HIt.out j it hj
                  · rw [List.getElem?_append_right h] at hj
                    have hj0 : j - L.length = 0 := by
                      rcases Nat.eq_zero_or_pos (j - L.length) with h0 | h0
                      · exact h0
                      · rw [List.getElem?_eq_none (by simp; omega)] at hj; cases hj
                    rw [hj0] at hj
                    simp at hj
                    subst hj
                    have : j = k := by have := HLen.out.1; omega
                    subst this
                    exact ⟨x, HX.out, HIO.out⟩
                · rw [← flatIt_snoc]
                  exact ownsRow_setCell_below HO6.out (by show wo.heap.size < wo.heap.size + 1; omega) _
                · exact (hr6.set 0 _).congr (fun j hj => by
                    match j, hj with
                    | 0, _ => rfl
                    | 1, _ => rfl)
                · rcases List.mem_append.1 hit with h | h
                  · obtain ⟨q1, q2, q3⟩ := HIV.out it h
                    have r5 : RdI .i64 (w5.alloc (.cells #[.int .i64 key, .slice AY y.length cy] 59)) it.at_ it.vals := q1.ext (HE5.out.alloc _)
                    have hsz := HE5.out.size
                    refine ⟨fun hn => ?_, q2, fun p hp => ?_⟩
                    · obtain ⟨b', off', hb', hc'⟩ := r5 hn
                      obtain ⟨q4, q5, q6⟩ := q3 _ hb'
                      refine ⟨b', off', hb', fun i u hu => ?_⟩
                      rw [World.cell?_setCell_other _ _ _ _ (fun e => by have := congrArg Addr.block e; simp at this q5; omega)]
                      exact HG6.out.cell (hc' i u hu) (fun e => q4 e.symm)
                    · obtain ⟨q4, q5, q6⟩ := q3 p hp
                      refine ⟨fun e => ?_, q5, by simp [World.setCell]; omega⟩
                      rcases HB6.out with h6 | h6
                      · rw [h6] at e; exact q4 e
                      · rw [h6] at e
                        injection e with e
                        simp at e; omega
                  · simp at h
                    subst h
                    have r5 : RdI .i64 (w5.alloc (.cells #[.int .i64 key, .slice AY y.length cy] 59)) AY y := HRY.out.ext ((Ext.refl _).alloc _)
                    have hsz := HE4.out.size
                    have hs2 := HE2.out.size
                    have hrl := HRow.out.lt
                    have ho := HOwn.out
                    have q3 : ∀ p, AY = some p → v.ownBlock ≠ some p.block ∧ p.block ≠ wo.heap.size ∧ p.block < w5.heap.size := fun p hp => by
                      obtain ⟨h1, h2⟩ := HBY.out p hp
                      refine ⟨fun e => ?_, by omega, h2⟩
                      have := (ho.lt _ e).2
                      omega
                    refine ⟨fun hn => ?_, ⟨by show y.length ≤ _; rw [HYL.out]; omega, hcy⟩, fun p hp => ?_⟩
                    · obtain ⟨b', off', hb', hc'⟩ := r5 hn
                      obtain ⟨q4, q5, q6⟩ := q3 _ hb'
                      refine ⟨b', off', hb', fun i u hu => ?_⟩
                      rw [World.cell?_setCell_other _ _ _ _ (fun e => by have := congrArg Addr.block e; simp at this q5; omega)]
                      exact HG6.out.cell (hc' i u hu) (fun e => q4 e.symm)
                    · obtain ⟨q4, q5, q6⟩ := q3 p hp
                      refine ⟨fun e => ?_, q5, by simp [World.setCell]; omega⟩
                      rcases HB6.out with h6 | h6
                      · rw [h6] at e; exact q4 e
                      · rw [h6] at e
                        injection e with e
                        simp at e; omega
              case measure => simp [intOf]; omega
      · have hkl : k = l.length := by omega
        have HIO : Hid (itemsO rows l = some (L.map Item.dat)) := Lib.hid (itemsO_some (by rw [HLen.out.1, hkl]) HIt.out)
        by_cases hk0 : 0 < k
        · obtain ⟨g, cap, f, rfl, hcap, hcm, hg, hrow, hf⟩ := own_block2 HOwn.out hk0
          have HLst : Hid (Lst wr g (cap * 2) L) := Lib.hid ⟨f, hrow, by rw [HLen.out.1]; omega, fun j it hj => by
            obtain ⟨q1, q2⟩ := flatIt_at hj
            exact ⟨hf _ _ q1, hf _ _ q2⟩⟩
          have HIV2 := Lib.hid HIV.out
          have hcon := sort_any wo.heap.size g cap L wr HLst.out (by rw [HLen.out.1]; exact hcap) (by rw [HLen.out.1]; omega) (fun it hit => by
            obtain ⟨q1, q2, q3⟩ := HIV.out it hit
            exact ⟨q1, fun p hp e => (q3 p hp).1 (by simp [Value.ownBlock, e]), q2.1⟩) (by rw [HLen.out.1]; exact HRow.out) (by omega)
          have HC := Lib.hid hcon
          have hglt := hrow.lt
          have hslt := HRow.out.lt
          clear hcon hf hrow hkl
          go_wp2_with fail
          refine HC.out.mono ?_
          rintro e w5 ⟨L', rfl, hperm, hsort, hlst, hcell, hrow5, hblk, hsz, h1, h2, h3⟩
          have HP := Lib.hid hperm
          have HSo := Lib.hid hsort
          have HL5 := Lib.hid hlst
          have HE5 : Hid (Ext wo w5) := Lib.hid ⟨h1.trans HE2.out.os, h2.trans HE2.out.tape, h3.trans HE2.out.output, Nat.le_trans HE2.out.size hsz, fun j hj => by
            rw [hblk j (Nat.lt_of_lt_of_le hj HE2.out.size) (by omega) (by omega)]
            exact HE2.out.block j hj⟩
          have HIt5 : Hid (∀ it ∈ compact L', SlI .i64 w5 it.val it.vals) := Lib.hid (fun it hit => by
            obtain ⟨q1, q2, q3⟩ := HIV.out it (hperm.subset (compact_mem hit))
            refine ⟨it.at_, it.cap, rfl, q2.2, q2.1, fun hn => ?_⟩
            obtain ⟨b', off', hb', hc'⟩ := q1 hn
            obtain ⟨r1, r2, r3⟩ := q3 _ hb'
            refine ⟨b', off', hb', fun i u hu => ?_⟩
            rw [World.cell?_of_block (w := wr) (hblk b' r3 (fun e => r1 (by simp [Value.ownBlock, e])) r2)]
            exact hc' i u hu)
          have hm : (compact L').length ≤ 65536 := by
            have h1 := compact_len L'
            have h2 := hperm.length_eq
            rw [HLen.out.1] at h2
            omega
          have hmk := run_make_row' (P := Try.prog) 35 22 (.slice none 0 0) 24 Try.underlying35 Try.infoSlI64 rfl .i64 .i64 (compact L').length (by omega) (by omega)
          have hcell2 : ∀ o, (w5.alloc o).cell? ⟨wo.heap.size, 0, none⟩ = some (.slice (some ⟨g, 0, none⟩) (compact L').length cap) := fun o => by rw [World.cell?_alloc_lt _ _ _ (by show wo.heap.size < _; omega)]; exact hcell
          have HS0 := Lib.hid (World.rowIs_made w5 (.slice none 0 0) (compact L').length 22)
          clear hperm hsort hlst hrow5 hblk h1 h2 h3 HC
          go_wp2_with fail
          clear hmk hcell2 hcell
          go_loopw [67, 14, 15] (fun i _ _ wx => ∃ m : Nat, m ≤ (compact L').length ∧ i = .int .i64 m ∧ Hid (wx.rowIs w5.heap.size 22 (compact L').length (outF (compact L') m)) ∧ Hid (Ext w5 wx)) (fun i _ _ _ => (compact L').length - (intOf i).toNat)
          case atStart => exact ⟨0, Nat.zero_le _, rfl, Lib.hid (HS0.out.congr (fun j _ => by simp [outF])), Lib.hid ((Ext.refl _).alloc _)⟩
          case round =>
            clear HS0
            obtain ⟨wp, rfl⟩ : ∃ wp : World, wp = wr := ⟨_, rfl⟩
            obtain ⟨m, hmm, rfl, HO, HX5⟩ := hrel
            by_cases hml : m < (compact L').length
            · obtain ⟨it, hit⟩ := getElem?_of_lt hml
              have HIT := Lib.hid hit
              have t1 := (HL5.out.ext HX5.out).cell0 hit
              have t2 := (HL5.out.ext HX5.out).cell1 hit
              have hlt5 := HO.out.lt
              have t3 : ∀ o, (wp.alloc o).cell? ⟨w5.heap.size, m, none⟩ = some (.slice none 0 0) := fun o => by
                rw [(HO.out.alloc o).cell hml]; simp [outF]
              have t4 : ∀ o, (wp.alloc o).frozen? ⟨w5.heap.size, m, none⟩ = false := fun o => (HO.out.alloc o).frozen m
              clear hit
              go_wp2_with fail
              go_roundw
              case rel =>
                refine ⟨m + 1, by omega, by go_num, Lib.hid (((HO.out.set m _).congr (fun j _ => ?_)).alloc _), Lib.hid ((HX5.out.setCell (Nat.le_refl _) _).alloc _)⟩
                unfold outF
                by_cases e : j = m
                · subst e
                  rw [if_pos rfl, if_pos (by omega), HIT.out]; rfl
                · rw [if_neg e]
                  by_cases e2 : j < m
                  · rw [if_pos e2, if_pos (by omega)]
                  · rw [if_neg e2, if_neg (by omega)]
              case measure => simp [intOf]; omega
            · go_wp2_with fail
              go_ret2
              have hmeq : m = (compact L').length := by omega
              refine ⟨?_, (HE.out.trans HE5.out).trans HX5.out⟩
              rw [HIO.out]
              refine ⟨L', HP.out.map Item.dat, HSo.out, some ⟨w5.heap.size, 0, none⟩, rfl, fun _ => ⟨w5.heap.size, 0, rfl, fun i r hr => ?_⟩⟩
              rw [List.getElem?_map] at hr
              cases hci : (compact L')[i]? with
              | none => rw [hci] at hr; cases hr
              | some it =>
                rw [hci] at hr
                simp at hr
                subst hr
                have hil := (List.getElem?_eq_some_iff.1 hci).1
                refine ⟨it.val, ?_, ?_⟩
                · rw [Nat.zero_add, HO.out.cell hil]
                  unfold outF
                  rw [if_pos (by omega), hci]
                · exact (HIt5.out it (List.mem_of_getElem? hci)).ext HX5.out
        · have hv := HLen.out.2 (by omega)
          have hL0 : L = [] := List.eq_nil_of_length_eq_zero (by rw [HLen.out.1]; omega)
          subst hv hL0
          have HC := Lib.hid (sort_nil wo.heap.size wr HRow.out)
          have hslt := HRow.out.lt
          clear hkl
          go_wp2_with fail
          refine HC.out.mono ?_
          rintro e w5 ⟨rfl, hcell, hblk, hsz, h1, h2, h3⟩
          have HE5 : Hid (Ext wo w5) := Lib.hid ⟨h1.trans HE2.out.os, h2.trans HE2.out.tape, h3.trans HE2.out.output, Nat.le_trans HE2.out.size hsz, fun j hj => by
            rw [hblk j (Nat.lt_of_lt_of_le hj HE2.out.size) (by omega)]
            exact HE2.out.block j hj⟩
          have hmk : ∀ w : World, (Instr.makeSlice 35 (.int .i64 0) (.int .i64 0)).run Try.prog w = .ok (.slice (some ⟨w.heap.size, 0, none⟩) 0 0) (w.alloc (.cells (madeCells #[.slice none 0 0] 0) 22)) := run_make_row' (P := Try.prog) 35 22 (.slice none 0 0) 24 Try.underlying35 Try.infoSlI64 rfl .i64 .i64 0 (by omega) (by omega)
          have hcell2 : ∀ o, (w5.alloc o).cell? ⟨wo.heap.size, 0, none⟩ = some (.slice none 0 0) := fun o => by rw [World.cell?_alloc_lt _ _ _ (by show wo.heap.size < _; omega)]; exact hcell
          clear hblk h1 h2 h3 HC
          go_wp2_with fail
          refine wp_loop_rounds 1 ?_
          rw [rounds_succ]
          go_wp2_with fail
          go_ret2
          refine ⟨?_, (HE.out.trans HE5.out).alloc _⟩
          rw [HIO.out]
          exact ⟨[], .refl _, (by intro i j a b _ h; simp at h), some ⟨w5.heap.size, 0, none⟩, rfl, RdM.nil _ _ _⟩

end Go.Proofs.Ytennjcjjegbhgaa
