/-
  Part 17 of a proof (walks and plain facts).
-/
import Derived.Test.YtennjcjjegbhgaaGreatP15
import Derived.Laws.EntriesVeiled
import Derived.Lib.SmallJoins
set_option linter.all false
namespace Go.Proofs.YtennjcjjegbhgaaGreat
open Go.RowKit
set_option maxRecDepth 100000 in
set_option maxHeartbeats 1000000 in
theorem sortFunc_nil (w : World) :
    Calls Tryz.prog 97 #[.slice none 0 0, .func (Fn.func 51) #[] #[]] w fun e w' => e = .returned (.tuple #[]) ∧ ∃ n, w' = w.drewN n := by
  have hl : ∀ w, Calls Tryz.prog 136 #[.int .u64 0] w fun e w' => e = .returned (.int .i64 0) ∧ w = w' := fun w => by
    go_enter Tryz.func136, Tryz.ntmps136
    go_wp2
    go_ret
    refine ⟨?_, rfl⟩
    show Ending.returned (.int .i64 (wrap64 (wrap64 (Lib.len8 0)))) = _
    rw [show Lib.len8 0 = 0 from by decide +kernel, IntWalk.wrap64_in 0 ⟨by omega, by omega⟩, IntWalk.wrap64_in 0 ⟨by omega, by omega⟩]
  have hi : ∀ w, Calls Tryz.prog 155 #[.slice none 0 0, .int .i64 0, .int .i64 0, .func (Fn.func 51) #[] #[]] w fun e w' => e = .returned (.tuple #[]) ∧ w = w' := fun w => by
    go_enter Tryz.func155, Tryz.ntmps155
    go_wp2
    refine wp_loop_rounds 1 ?_
    rw [rounds_succ]
    go_wp2
    go_end0
    exact ⟨rfl, rfl⟩
  have hp : ∀ w, Calls Tryz.prog 135 #[.slice none 0 0, .int .i64 0, .int .i64 0, .int .i64 0, .func (Fn.func 51) #[] #[]] w fun e w' => e = .returned (.tuple #[]) ∧ w = w' := fun w => by
    have HI := Lib.hid hi
    clear hi hl
    go_enter Tryz.func135, Tryz.ntmps135
    go_wp2_with fail
    refine wp_loop_rounds 1 ?_
    rw [rounds_succ]
    go_wp2_with (go_at_call 155; refine (HI.out _).mono ?_; rintro e w' ⟨rfl, rfl⟩)
    refine bodyPost_ret (results_none rfl _ _ _) rfl ?_
    exact ⟨rfl, rfl⟩
  have HP := Lib.hid hp
  have HLn := Lib.hid hl
  clear hp hl hi
  go_enter Tryz.func97, Tryz.ntmps97
  go_wp2_with (first | (go_at_call 136; refine (HLn.out _).mono ?_; rintro e w' ⟨rfl, rfl⟩) | (go_at_call 135; refine (HP.out _).mono ?_; rintro e w' ⟨rfl, rfl⟩))
  go_end0
  exact ⟨rfl, 0, rfl⟩
theorem compactFunc_nil (w : World) (fv : Value) :
    Calls Tryz.prog 98 #[.slice none 0 0, fv] w fun e w' => e = .returned (.slice none 0 0) ∧ w = w' := by
  go_enter Tryz.func98, Tryz.ntmps98
  go_wp2_with fail
  go_ret
  exact ⟨rfl, rfl⟩
set_option maxRecDepth 100000 in
set_option maxHeartbeats 2000000 in
theorem sort_nil (sx : Nat) (w : World) (hS : w.rowIs sx 81 2 (fun j => if j = 0 then .slice none 0 0 else .func (Fn.func 51) #[] #[])) :
    Calls Tryz.prog 52 #[.pointer (some ⟨sx, 0, none⟩)] w fun e w' =>
      e = .returned (.tuple #[]) ∧ w'.cell? ⟨sx, 0, none⟩ = some (.slice none 0 0) ∧
        (∀ k, k < w.heap.size → k ≠ sx → w'.heap[k]? = w.heap[k]?) ∧ w.heap.size ≤ w'.heap.size ∧ w'.os = w.os ∧ w'.tape = w.tape ∧ w'.output = w.output := by
  have HS := Lib.hid hS
  have hslt := hS.lt
  clear hS
  go_enter Tryz.func52, Tryz.ntmps52
  go_wp2_with fail
  have c0 : (w.alloc (.cells #[.pointer (some ⟨sx, 0, none⟩)] 127)).drew.cell? ⟨w.heap.size, 0, none⟩ = some (.pointer (some ⟨sx, 0, none⟩)) := by go_simp
  have HE0 : Hid (Ext w (w.alloc (.cells #[.pointer (some ⟨sx, 0, none⟩)] 127)).drew) := Lib.hid ((Ext.refl _).alloc _).drew
  generalize w.alloc (.cells #[.pointer (some ⟨sx, 0, none⟩)] 127) = w1 at *
  refine region_still_tail 8 (by kernel_rfl) (by kernel_rfl) ?_
  simp only [List.take_succ_cons, List.take_zero, List.drop_succ_cons, List.drop_zero]
  generalize w1.drew = w2 at *
  have s0 : w2.cell? ⟨sx, 0, none⟩ = some (.slice none 0 0) := (rowIs_ext HS.out HE0.out).cell (by omega)
  have s1 : w2.cell? ⟨sx, 1, none⟩ = some (.func (Fn.func 51) #[] #[]) := (rowIs_ext HS.out HE0.out).cell (by omega)
  iterate 8 still_step
  refine wpStill_nil ?_
  have HC := Lib.hid (sortFunc_nil w2)
  clear s1
  go_wp2_with fail
  refine HC.out.mono ?_
  rintro e w3 ⟨rfl, n, rfl⟩
  have HE3 := Lib.hid (HE0.out.drewN n)
  have d0 : (w2.drewN n).cell? ⟨w.heap.size, 0, none⟩ = some (.pointer (some ⟨sx, 0, none⟩)) := c0
  have d1 : (w2.drewN n).cell? ⟨sx, 0, none⟩ = some (.slice none 0 0) := s0
  have d2 : (w2.drewN n).frozen? ⟨sx, 0, none⟩ = false := (rowIs_ext HS.out HE3.out).frozen 0
  clear HC s0 c0 HE0
  generalize w2.drewN n = w3 at *
  have HC : Hid (∀ (w : World) (fv : Value), Calls Tryz.prog 98 #[.slice none 0 0, fv] w fun e w' => e = .returned (.slice none 0 0) ∧ w = w') := Lib.hid compactFunc_nil
  go_wp2_with fail
  go_region_law (go_simp; go_at_call 98; refine (HC.out _ _).mono ?_; rintro e w5 ⟨rfl, rfl⟩)
  all_goals
    go_wp2_with fail
    go_end0
    refine ⟨rfl, ?_, fun k hk hks => ?_, ?_, HE3.out.os, HE3.out.tape, HE3.out.output⟩
    · exact (((rowIs_ext HS.out HE3.out).drew.set 0 (.slice none 0 0)).cell (i := 0) (by omega))
    · show ((w3.drew.setCell ⟨sx, 0, none⟩ (.slice none 0 0)).heap[k]?) = _
      rw [Below.heap_setCell _ _ _ _ hks]
      exact HE3.out.block k hk
    · have := HE3.out.size
      simpa [World.setCell, World.drew] using this
end Go.Proofs.YtennjcjjegbhgaaGreat
namespace Go.Proofs.YtennjcjjegbhgaaGreat
open Go.RowKit
theorem Tryz.infoKeyed : (Tryz.prog.info? 83).map (fun i => (i.zero, i.size, i.bytes)) = some (some (.agg #[.int .i64 0, .slice none 0 0]), 2, 32) := by kernel_rfl
def normO (rows : List (List Int)) (x : List Int) : Option Int :=
  if -4611686018427387904 ≤ accZ x (applyM rows x) x.length ∧ accZ x (applyM rows x) x.length ≤ 4611686018427387904 then some (accZ x (applyM rows x) x.length) else none
def itemO (rows : List (List Int)) (x : List Int) : Option (Int × List Int) :=
  if FitB rows.length x then (match normO rows x, canonS x with
    | some k, some y => some (k, y)
    | _, _ => none) else none
def itemsO (rows : List (List Int)) : List (List Int) → Option (List (Int × List Int))
  | [] => some []
  | x :: l => match itemO rows x, itemsO rows l with
    | some a, some b => some (a :: b)
    | _, _ => none
theorem itemsO_none {rows : List (List Int)} : ∀ {l : List (List Int)} {k : Nat} {x : List Int}, l[k]? = some x → itemO rows x = none → itemsO rows l = none
  | [], _, _, h, _ => by simp at h
  | a :: l, 0, x, h, h' => by simp at h; subst h; simp [itemsO, h']
  | a :: l, k + 1, x, h, h' => by
    simp at h
    have := itemsO_none h h'
    simp [itemsO, this]
def NItem.dat (it : NItem) : Int × List Int := (it.key, it.vals)
theorem itemsO_some {rows : List (List Int)} : ∀ {l : List (List Int)} {L : List NItem}, L.length = l.length → (∀ (j : Nat) (it : NItem), L[j]? = some it → ∃ x, l[j]? = some x ∧ itemO rows x = some it.dat) → itemsO rows l = some (L.map NItem.dat)
  | [], [], _, _ => rfl
  | [], _ :: _, h, _ => by simp at h
  | _ :: _, [], h, _ => by simp at h
  | x :: l, it :: L, h, hh => by
    have h1 := hh 0 it rfl
    simp at h1
    have h2 := itemsO_some (rows := rows) (l := l) (L := L) (by simpa using h) (fun j it' hj => by
      obtain ⟨y, q1, q2⟩ := hh (j + 1) it' (by simpa using hj)
      exact ⟨y, by simpa using q1, q2⟩)
    simp [itemsO, h1, h2]
def flatIt (L : List NItem) : List Value := L.flatMap encIt
theorem flatIt_snoc (L : List NItem) (it : NItem) : flatIt L ++ encIt it = flatIt (L ++ [it]) := by simp [flatIt]
theorem flatIt_at : ∀ {L : List NItem} {j : Nat} {it : NItem}, L[j]? = some it → (flatIt L)[j * 2]? = some (.int .i64 it.key) ∧ (flatIt L)[j * 2 + 1]? = some it.val
  | [], _, _, h => by simp at h
  | a :: L, 0, it, h => by simp at h; subst h; simp [flatIt, encIt, NItem.val]
  | a :: L, j + 1, it, h => by
    simp at h
    obtain ⟨h1, h2⟩ := flatIt_at h
    have e : flatIt (a :: L) = .int .i64 a.key :: a.val :: flatIt L := by simp [flatIt, encIt, NItem.val]
    rw [e, show (j + 1) * 2 = j * 2 + 1 + 1 from by omega, show j * 2 + 1 + 1 + 1 = (j * 2 + 1) + 1 + 1 from rfl]
    simp only [List.getElem?_cons_succ]
    exact ⟨h1, h2⟩
theorem oneCell_it (it : NItem) : ∀ u ∈ encIt it, u.oneCell' = true := by
  intro u hu
  simp [encIt] at hu
  rcases hu with rfl | rfl <;> rfl
def srtF (v : Value) : Nat → Value := fun j => if j = 0 then v else .func (Fn.func 51) #[] #[]
def ItemV (w : World) (sx : Nat) (v : Value) (it : NItem) : Prop := RdI .i64 w it.at_ it.vals ∧ (it.vals.length ≤ 9223372036854775807 ∧ it.vals.length ≤ it.cap) ∧ ∀ p, it.at_ = some p → v.ownBlock ≠ some p.block ∧ p.block ≠ sx ∧ p.block < w.heap.size
def SUPost (w' : World) (r : Option (List (Int × List Int))) (e : Ending) : Prop := match r with
  | none => e = .returned (.tuple #[.slice none 0 0, .bool false])
  | some ks => ∃ L : List NItem, (L.map NItem.dat).Perm ks ∧ SortedL L ∧ ∃ A, e = .returned (.tuple #[.slice A (compact L).length (compact L).length, .bool true]) ∧ RdM .i64 w' A ((compact L).map NItem.vals)
theorem dotV_some {rows : List (List Int)} {x : List Int} {k : Int} (h : normO rows x = some k) : dotV (accZ x (applyM rows x) x.length) = .tuple #[.int .i64 k, .bool true] := by
  unfold normO at h
  split at h
  · cases h; unfold dotV; rw [if_pos (by assumption)]
  · cases h
theorem dotV_none {rows : List (List Int)} {x : List Int} (h : normO rows x = none) : dotV (accZ x (applyM rows x) x.length) = .tuple #[.int .i64 0, .bool false] := by
  unfold normO at h
  split at h
  · cases h
  · unfold dotV; rw [if_neg (by assumption)]
theorem compGo_mem : ∀ {l : List NItem} {p it : NItem}, it ∈ compGo p l → it ∈ l
  | [], _, _, h => by simp [compGo] at h
  | b :: l, p, it, h => by
    unfold compGo at h
    split at h
    · exact List.mem_cons_of_mem _ (compGo_mem h)
    · rcases List.mem_cons.1 h with rfl | h
      · exact List.mem_cons_self
      · exact List.mem_cons_of_mem _ (compGo_mem h)
theorem compact_mem {L : List NItem} {it : NItem} (h : it ∈ compact L) : it ∈ L := by
  cases L with
  | nil => simp [compact] at h
  | cons a l =>
    unfold compact at h
    rcases List.mem_cons.1 h with rfl | h
    · exact List.mem_cons_self
    · exact List.mem_cons_of_mem _ (compGo_mem h)
theorem compGo_len : ∀ (l : List NItem) (p : NItem), (compGo p l).length ≤ l.length
  | [], _ => by simp [compGo]
  | b :: l, p => by
    unfold compGo
    have := compGo_len l b
    split
    · simp; omega
    · simp; omega
theorem compact_len (L : List NItem) : (compact L).length ≤ L.length := by
  cases L with
  | nil => simp [compact]
  | cons a l => have := compGo_len l a; simp [compact]; omega
def outF (L : List NItem) (m : Nat) : Nat → Value := fun j => if j < m then (match L[j]? with | some it => it.val | none => undef) else .slice none 0 0
set_option maxRecDepth 100000 in
set_option maxHeartbeats 4000000 in
theorem sortUnique_any (A B : Option Addr) (c d : Nat) (rows l : List (List Int)) (w : World) (hR : RdM .i64 w A rows) (hl : RdM .i64 w B l) (lr : rows.length ≤ 9223372036854775807) (hc : rows.length ≤ c) (ll : l.length ≤ 65536) :
    Calls Tryz.prog 22 #[.slice A rows.length c, .slice B l.length d] w fun e w' => SUPost w' (if isReducedM rows then itemsO rows l else none) e ∧ Ext w w' := by
  have HR := Lib.hid hR
  have HL := Lib.hid hl
  clear hR hl
  cases hI : isReducedM rows with
  | false =>
    have HV : Hid ((if isReducedM rows then itemsO rows l else none) = none) := Lib.hid (by simp [hI])
    go_enter Tryz.func22, Tryz.ntmps22
    go_wp2_with (go_at_call 42; refine (isReduced_any A c rows _ HR.out lr hc).mono ?_; rintro e w1 ⟨rfl, he⟩)
    go_ret2
    exact ⟨rfl, he⟩
  | true =>
    have HSm := Lib.hid (isReducedM_small hI)
    have h8 : rows.length ≤ 8 := HSm.out.2.1
    go_enter Tryz.func22, Tryz.ntmps22
    go_wp2_with (go_at_call 42; refine (isReduced_any A c rows _ HR.out lr hc).mono ?_; rintro e w1 ⟨rfl, he⟩; have HE := Lib.hid he; clear he)
    clear hI
    obtain ⟨wo, rfl⟩ : ∃ wo : World, wo = w1 := ⟨_, rfl⟩
    go_loopw [22, 8, 9, 10, 11, 12] (fun i _ _ _ _ _ wr => ∃ (k : Nat) (L : List NItem) (v : Value), k ≤ l.length ∧ i = .int .i64 k ∧ Hid (L.length = k ∧ (k = 0 → v = .slice none 0 0)) ∧ Hid (∀ (j : Nat) (it : NItem), L[j]? = some it → ∃ x, l[j]? = some x ∧ itemO rows x = some it.dat) ∧ Hid (wr.ownsRow (wo.heap.size + 1) 83 2 v k (flatIt L)) ∧ Hid (wr.rowIs wo.heap.size 81 2 (srtF v)) ∧ Hid (Ext wo wr) ∧ Hid (∀ it ∈ L, ItemV wr wo.heap.size v it)) (fun i _ _ _ _ _ _ => l.length - (intOf i).toNat)
    case atStart =>
      refine ⟨0, [], .slice none 0 0, Nat.zero_le _, rfl, Lib.hid ⟨rfl, fun _ => rfl⟩, Lib.hid (by simp), Lib.hid (World.ownsRow_nil _ _ _ _), Lib.hid ?_, Lib.hid ?_, Lib.hid (by simp)⟩
      · refine World.rowIs_alloc wo #[.slice none 0 0, .func (Fn.func 51) #[] #[]] _ _ (fun i hi => ?_)
        match i, hi with
        | 0, _ => rfl
        | 1, _ => rfl
      · exact (Ext.refl _).alloc _
    case round =>
      obtain ⟨k, L, v, hk, rfl, HLen, HIt, HOwn, HRow, HE2, HIV⟩ := hrel
      by_cases hlt : k < l.length
      · obtain ⟨x, hx⟩ := getElem?_of_lt hlt
        obtain ⟨b, off, BX, cx, rfl, hcx, hcxl, hlx, hrx⟩ := ((HL.out.ext HE.out).ext HE2.out).at_ hx
        have HX := Lib.hid hx
        have HRX := Lib.hid hrx
        clear hx hrx
        cases hF : FitB rows.length x with
        | false =>
          have HN : Hid (itemsO rows l = none) := Lib.hid (itemsO_none HX.out (by unfold itemO; rw [hF]; rfl))
          go_wp2_with (go_at_call 43; refine (fits_any rows.length BX cx x _ HRX.out hlx).mono ?_; rintro e w2 ⟨rfl, rfl⟩)
          go_ret2
          exact ⟨by rw [HN.out]; rfl, HE.out.trans HE2.out⟩
        | true =>
          obtain ⟨hxl, hxb⟩ := FitB_iff.1 hF
          have hxle : x.length ≤ rows.length := by omega
          have hxge : rows.length ≤ x.length := by omega
          have HXB := Lib.hid hxb
          have HF := Lib.hid hF
          have HA := Lib.hid (applyM_bd HSm.out hxb)
          have HAL := Lib.hid (applyM_length rows x)
          clear hxl hxb
          go_wp2_with (go_at_call 43; refine (fits_any rows.length BX cx x _ HRX.out hlx).mono ?_; rintro e w2 ⟨rfl, rfl⟩)
          clear hF
          refine (apply_any A BX c cx rows x _ ((HR.out.ext HE.out).ext HE2.out) HRX.out (by omega) (fun i hi => by rw [HSm.out.2.2.1 i hi]; exact hxge) hlx).mono ?_
          rintro e w3 ⟨rfl, hrd, he3⟩
          have hcon := dot_any BX (some ⟨wr.heap.size, 0, none⟩) cx rows.length x (applyM rows x) w3 (HRX.out.ext he3) hrd (by rw [HAL.out]; exact hxle) (by omega) (by rw [HAL.out]; omega) (fun i z hz => InB_bounds HXB.out hz) HA.out
          rw [HAL.out] at hcon
          have HC := Lib.hid hcon
          have HE3 := Lib.hid he3
          clear hcon hrd he3
          go_wp2_with fail
          cases hN : normO rows x with
          | none =>
            have hno := HC.out
            rw [dotV_none hN] at hno
            have HNone : Hid (itemsO rows l = none) := Lib.hid (itemsO_none HX.out (by unfold itemO; rw [HF.out, hN]; rfl))
            refine hno.mono ?_
            rintro e w4 ⟨rfl, he4⟩
            have HE4 := Lib.hid (HE3.out.trans he4)
            clear he4 hno HC hN
            go_wp2_with fail
            refine (canonicalSign_any BX cx x _ (HRX.out.ext HE4.out) (by omega)).mono ?_
            rintro e w5 ⟨hcv, he5⟩
            have HE5 := Lib.hid (((HE.out.trans HE2.out).trans HE4.out).trans he5)
            clear he5
            have hform : ∃ va vb, e = .returned (.tuple #[va, .bool vb]) := by
              unfold canonV at hcv
              split at hcv
              · exact ⟨_, _, hcv⟩
              · obtain ⟨A', c', h, _⟩ := hcv; exact ⟨_, _, h⟩
            obtain ⟨va, vb, rfl⟩ := hform
            clear hcv
            go_wp2_with fail
            go_ret2
            exact ⟨by rw [HNone.out]; rfl, HE5.out⟩
          | some key =>
            have hno := HC.out
            rw [dotV_some hN] at hno
            refine hno.mono ?_
            rintro e w4 ⟨rfl, he4⟩
            have HE4 := Lib.hid (HE3.out.trans he4)
            have HNo := Lib.hid hN
            clear he4 hno HC hN
            go_wp2_with fail
            refine (canonicalSign_any BX cx x _ (HRX.out.ext HE4.out) (by omega)).mono ?_
            rintro e w5 ⟨hcv, he5⟩
            have HE5 := Lib.hid (HE4.out.trans he5)
            clear he5
            cases hS : canonS x with
            | none =>
              have HNone : Hid (itemsO rows l = none) := Lib.hid (itemsO_none HX.out (by unfold itemO; rw [HF.out, HNo.out, hS]; rfl))
              rw [hS] at hcv
              obtain rfl := hcv
              clear hS
              go_wp2_with fail
              go_ret2
              exact ⟨by rw [HNone.out]; rfl, (HE.out.trans HE2.out).trans HE5.out⟩
            | some y =>
              rw [hS] at hcv
              obtain ⟨AY, cy, rfl, hcy, hry, hby⟩ := hcv
              have HIO : Hid (itemO rows x = some (key, y)) := Lib.hid (by unfold itemO; rw [HF.out, HNo.out, hS]; rfl)
              have HRY := Lib.hid hry
              have HBY := Lib.hid hby
              have HYL : Hid (y.length = x.length) := Lib.hid (by
                unfold canonS at hS
                split at hS
                · split at hS
                  · cases hS
                  · cases hS; split <;> simp
                · cases hS)
              clear hS hry hby
              have HO5 := Lib.hid (ownsRow_ext HOwn.out HE5.out)
              have HR5 := Lib.hid (rowIs_ext HRow.out HE5.out)
              have t0 : w5.cell? ⟨wo.heap.size, 0, none⟩ = some v := HR5.out.cell (by omega)
              have t1 : w5.frozen? ⟨wo.heap.size, 0, none⟩ = false := HR5.out.frozen 0
              have hslt : wo.heap.size < w5.heap.size := HR5.out.lt
              have HRd : Hid (Rd (w5.alloc (.cells #[.int .i64 key, .slice AY y.length cy] 83)) (some ⟨w5.heap.size, 0, none⟩) (encIt ⟨key, y, AY, cy⟩)) := Lib.hid (fun _ => ⟨w5.heap.size, 0, rfl, fun i u hu => by
                match i, hu with
                | 0, hu => simp [encIt] at hu; subst hu; go_simp
                | 1, hu => simp [encIt] at hu; subst hu; go_simp⟩)
              go_wp2_with (at_builtin; refine wpList_append_rd _ rfl (.tmp 51) (.tmp 55) _ rfl (wo.heap.size + 1) 83 (.agg #[.int .i64 0, .slice none 0 0]) 2 32 Tryz.underlying79 Tryz.infoKeyed rfl (by omega) v k (flatIt L) rfl (HO5.out.alloc _) (some ⟨w5.heap.size, 0, none⟩) 1 1 _ rfl HRd.out rfl (oneCell_it _) (by simp only [maxLen]; omega) (by omega) (by simp; omega) ?_; intro v6 w6 hown6 hg6 hb6; have HO6 := Lib.hid hown6; have HG6 := Lib.hid hg6; have HB6 := Lib.hid hb6; have hz6 : w5.heap.size + 1 ≤ w6.heap.size := (by have := hg6.size; simpa using this); have s0 : w6.cell? ⟨wo.heap.size, 0, none⟩ = some v := (by refine hg6.cell (a := ⟨wo.heap.size, 0, none⟩) (by rw [World.cell?_alloc_lt _ _ _ hslt]; exact t0) (fun e => ?_); have := (HO5.out.lt _ e.symm).1; simp at this; omega); have s1 : w6.frozen? ⟨wo.heap.size, 0, none⟩ = false := (by rw [World.frozen?_of_block (hg6.block wo.heap.size (by simp; omega) (fun e => by have := (HO5.out.lt _ e.symm).1; omega))]; rw [World.frozen?_of_block (Below.heap_alloc _ _ _ hslt)]; exact t1); obtain ⟨g6, cap6, f6, rfl, _, _, _, _, _⟩ := own_block2 hown6 (by omega); clear hown6 hg6 hb6 t0 t1)
              go_roundw
              case rel =>
                have hne : ∀ j, v.ownBlock = some j → wo.heap.size + 1 ≤ j := fun j hj => (HO5.out.lt j hj).1
                have hw5 : Ext wo (w5.alloc (.cells #[.int .i64 key, .slice AY y.length cy] 83)) := (HE2.out.trans HE5.out).alloc _
                have hw6 : Ext wo w6 := hw5.grown HG6.out (fun j hj => by have := hne j hj; omega)
                have hr6 : w6.rowIs wo.heap.size 81 2 (srtF v) := (HR5.out.alloc _).of_block (HG6.out.block wo.heap.size (by simp; omega) (fun e => by have := hne _ e.symm; omega))
                refine ⟨k + 1, L ++ [⟨key, y, AY, cy⟩], .slice (some ⟨g6, 0, none⟩) (k + 1) cap6, by omega, by go_num, Lib.hid ⟨by simp [HLen.out.1], fun h => by omega⟩, Lib.hid (fun j it hj => ?_), Lib.hid ?_, Lib.hid ?_, Lib.hid (hw6.setCell (Nat.le_refl _) _), Lib.hid (fun it hit => ?_)⟩
                · rcases Nat.lt_or_ge j L.length with h | h
                  · rw [List.getElem?_append_left h] at hj
                    exact HIt.out j it hj
                  · rw [List.getElem?_append_right h] at hj
                    have hj0 : j - L.length = 0 := by
                      rcases Nat.eq_zero_or_pos (j - L.length) with h0 | h0
                      · exact h0
                      · rw [List.getElem?_eq_none (by simp; omega)] at hj; cases hj
                    rw [hj0] at hj
                    simp at hj
                    subst hj
                    have : j = k := by have := HLen.out.1; omega
                    subst this
                    exact ⟨x, HX.out, HIO.out⟩
                · rw [← flatIt_snoc]
                  exact ownsRow_setCell_below HO6.out (by show wo.heap.size < wo.heap.size + 1; omega) _
                · exact (hr6.set 0 _).congr (fun j hj => by
                    match j, hj with
                    | 0, _ => rfl
                    | 1, _ => rfl)
                · rcases List.mem_append.1 hit with h | h
                  · obtain ⟨q1, q2, q3⟩ := HIV.out it h
                    have r5 : RdI .i64 (w5.alloc (.cells #[.int .i64 key, .slice AY y.length cy] 83)) it.at_ it.vals := q1.ext (HE5.out.alloc _)
                    have hsz := HE5.out.size
                    refine ⟨fun hn => ?_, q2, fun p hp => ?_⟩
                    · obtain ⟨b', off', hb', hc'⟩ := r5 hn
                      obtain ⟨q4, q5, q6⟩ := q3 _ hb'
                      refine ⟨b', off', hb', fun i u hu => ?_⟩
                      rw [World.cell?_setCell_other _ _ _ _ (fun e => by have := congrArg Addr.block e; simp at this q5; omega)]
                      exact HG6.out.cell (hc' i u hu) (fun e => q4 e.symm)
                    · obtain ⟨q4, q5, q6⟩ := q3 p hp
                      refine ⟨fun e => ?_, q5, by simp [World.setCell]; omega⟩
                      rcases HB6.out with h6 | h6
                      · rw [h6] at e; exact q4 e
                      · rw [h6] at e
                        injection e with e
                        simp at e; omega
                  · simp at h
                    subst h
                    have r5 : RdI .i64 (w5.alloc (.cells #[.int .i64 key, .slice AY y.length cy] 83)) AY y := HRY.out.ext ((Ext.refl _).alloc _)
                    have hsz := HE4.out.size
                    have hs2 := HE2.out.size
                    have hrl := HRow.out.lt
                    have ho := HOwn.out
                    have q3 : ∀ p, AY = some p → v.ownBlock ≠ some p.block ∧ p.block ≠ wo.heap.size ∧ p.block < w5.heap.size := fun p hp => by
                      obtain ⟨h1, h2⟩ := HBY.out p hp
                      refine ⟨fun e => ?_, by omega, h2⟩
                      have := (ho.lt _ e).2
                      omega
                    refine ⟨fun hn => ?_, ⟨by show y.length ≤ _; rw [HYL.out]; omega, hcy⟩, fun p hp => ?_⟩
                    · obtain ⟨b', off', hb', hc'⟩ := r5 hn
                      obtain ⟨q4, q5, q6⟩ := q3 _ hb'
                      refine ⟨b', off', hb', fun i u hu => ?_⟩
                      rw [World.cell?_setCell_other _ _ _ _ (fun e => by have := congrArg Addr.block e; simp at this q5; omega)]
                      exact HG6.out.cell (hc' i u hu) (fun e => q4 e.symm)
                    · obtain ⟨q4, q5, q6⟩ := q3 p hp
                      refine ⟨fun e => ?_, q5, by simp [World.setCell]; omega⟩
                      rcases HB6.out with h6 | h6
                      · rw [h6] at e; exact q4 e
                      · rw [h6] at e
                        injection e with e
                        simp at e; omega
              case measure => simp [intOf]; omega
      · have hkl : k = l.length := by omega
        have HIO : Hid (itemsO rows l = some (L.map NItem.dat)) := Lib.hid (itemsO_some (by rw [HLen.out.1, hkl]) HIt.out)
        by_cases hk0 : 0 < k
        · obtain ⟨g, cap, f, rfl, hcap, hcm, hg, hrow, hf⟩ := own_block2 HOwn.out hk0
          have HLst : Hid (Lst wr g (cap * 2) L) := Lib.hid ⟨f, hrow, by rw [HLen.out.1]; omega, fun j it hj => by
            obtain ⟨q1, q2⟩ := flatIt_at hj
            exact ⟨hf _ _ q1, hf _ _ q2⟩⟩
          have HIV2 := Lib.hid HIV.out
          have hcon := sort_any wo.heap.size g cap L wr HLst.out (by rw [HLen.out.1]; exact hcap) (by rw [HLen.out.1]; omega) (fun it hit => by
            obtain ⟨q1, q2, q3⟩ := HIV.out it hit
            exact ⟨q1, fun p hp e => (q3 p hp).1 (by simp [Value.ownBlock, e]), q2.1⟩) (by rw [HLen.out.1]; exact HRow.out) (by omega)
          have HC := Lib.hid hcon
          have hglt := hrow.lt
          have hslt := HRow.out.lt
          clear hcon hf hrow hkl
          go_wp2_with fail
          refine HC.out.mono ?_
          rintro e w5 ⟨L', rfl, hperm, hsort, hlst, hcell, hrow5, hblk, hsz, h1, h2, h3⟩
          have HP := Lib.hid hperm
          have HSo := Lib.hid hsort
          have HL5 := Lib.hid hlst
          have HE5 : Hid (Ext wo w5) := Lib.hid ⟨h1.trans HE2.out.os, h2.trans HE2.out.tape, h3.trans HE2.out.output, Nat.le_trans HE2.out.size hsz, fun j hj => by
            rw [hblk j (Nat.lt_of_lt_of_le hj HE2.out.size) (by omega) (by omega)]
            exact HE2.out.block j hj⟩
          have HIt5 : Hid (∀ it ∈ compact L', SlI .i64 w5 it.val it.vals) := Lib.hid (fun it hit => by
            obtain ⟨q1, q2, q3⟩ := HIV.out it (hperm.subset (compact_mem hit))
            refine ⟨it.at_, it.cap, rfl, q2.2, q2.1, fun hn => ?_⟩
            obtain ⟨b', off', hb', hc'⟩ := q1 hn
            obtain ⟨r1, r2, r3⟩ := q3 _ hb'
            refine ⟨b', off', hb', fun i u hu => ?_⟩
            rw [World.cell?_of_block (w := wr) (hblk b' r3 (fun e => r1 (by simp [Value.ownBlock, e])) r2)]
            exact hc' i u hu)
          have hm : (compact L').length ≤ 65536 := by
            have h1 := compact_len L'
            have h2 := hperm.length_eq
            rw [HLen.out.1] at h2
            omega
          have hmk := run_make_row' (P := Tryz.prog) 22 23 (.slice none 0 0) 24 Tryz.underlying22 Tryz.infoSlI64 rfl .i64 .i64 (compact L').length (by omega) (by omega)
          have hcell2 : ∀ o, (w5.alloc o).cell? ⟨wo.heap.size, 0, none⟩ = some (.slice (some ⟨g, 0, none⟩) (compact L').length cap) := fun o => by rw [World.cell?_alloc_lt _ _ _ (by show wo.heap.size < _; omega)]; exact hcell
          have HS0 := Lib.hid (World.rowIs_made w5 (.slice none 0 0) (compact L').length 23)
          clear hperm hsort hlst hrow5 hblk h1 h2 h3 HC
          go_wp2_with fail
          clear hmk hcell2 hcell
          go_loopw [67, 14, 15] (fun i _ _ wx => ∃ m : Nat, m ≤ (compact L').length ∧ i = .int .i64 m ∧ Hid (wx.rowIs w5.heap.size 23 (compact L').length (outF (compact L') m)) ∧ Hid (Ext w5 wx)) (fun i _ _ _ => (compact L').length - (intOf i).toNat)
          case atStart => exact ⟨0, Nat.zero_le _, rfl, Lib.hid (HS0.out.congr (fun j _ => by simp [outF])), Lib.hid ((Ext.refl _).alloc _)⟩
          case round =>
            clear HS0
            obtain ⟨wp, rfl⟩ : ∃ wp : World, wp = wr := ⟨_, rfl⟩
            obtain ⟨m, hmm, rfl, HO, HX5⟩ := hrel
            by_cases hml : m < (compact L').length
            · obtain ⟨it, hit⟩ := getElem?_of_lt hml
              have HIT := Lib.hid hit
              have t1 := (HL5.out.ext HX5.out).cell0 hit
              have t2 := (HL5.out.ext HX5.out).cell1 hit
              have hlt5 := HO.out.lt
              have t3 : ∀ o, (wp.alloc o).cell? ⟨w5.heap.size, m, none⟩ = some (.slice none 0 0) := fun o => by
                rw [(HO.out.alloc o).cell hml]; simp [outF]
              have t4 : ∀ o, (wp.alloc o).frozen? ⟨w5.heap.size, m, none⟩ = false := fun o => (HO.out.alloc o).frozen m
              clear hit
              go_wp2_with fail
              go_roundw
              case rel =>
                refine ⟨m + 1, by omega, by go_num, Lib.hid (((HO.out.set m _).congr (fun j _ => ?_)).alloc _), Lib.hid ((HX5.out.setCell (Nat.le_refl _) _).alloc _)⟩
                unfold outF
                by_cases e : j = m
                · subst e
                  rw [if_pos rfl, if_pos (by omega), HIT.out]; rfl
                · rw [if_neg e]
                  by_cases e2 : j < m
                  · rw [if_pos e2, if_pos (by omega)]
                  · rw [if_neg e2, if_neg (by omega)]
              case measure => simp [intOf]; omega
            · go_wp2_with fail
              go_ret2
              have hmeq : m = (compact L').length := by omega
              refine ⟨?_, (HE.out.trans HE5.out).trans HX5.out⟩
              rw [HIO.out]
              refine ⟨L', HP.out.map NItem.dat, HSo.out, some ⟨w5.heap.size, 0, none⟩, rfl, fun _ => ⟨w5.heap.size, 0, rfl, fun i r hr => ?_⟩⟩
              rw [List.getElem?_map] at hr
              cases hci : (compact L')[i]? with
              | none => rw [hci] at hr; cases hr
              | some it =>
                rw [hci] at hr
                simp at hr
                subst hr
                have hil := (List.getElem?_eq_some_iff.1 hci).1
                refine ⟨it.val, ?_, ?_⟩
                · rw [Nat.zero_add, HO.out.cell hil]
                  unfold outF
                  rw [if_pos (by omega), hci]
                · exact (HIt5.out it (List.mem_of_getElem? hci)).ext HX5.out
        · have hv := HLen.out.2 (by omega)
          have hL0 : L = [] := List.eq_nil_of_length_eq_zero (by rw [HLen.out.1]; omega)
          subst hv hL0
          have HC := Lib.hid (sort_nil wo.heap.size wr HRow.out)
          have hslt := HRow.out.lt
          clear hkl
          go_wp2_with fail
          refine HC.out.mono ?_
          rintro e w5 ⟨rfl, hcell, hblk, hsz, h1, h2, h3⟩
          have HE5 : Hid (Ext wo w5) := Lib.hid ⟨h1.trans HE2.out.os, h2.trans HE2.out.tape, h3.trans HE2.out.output, Nat.le_trans HE2.out.size hsz, fun j hj => by
            rw [hblk j (Nat.lt_of_lt_of_le hj HE2.out.size) (by omega)]
            exact HE2.out.block j hj⟩
          have hmk : ∀ w : World, (Instr.makeSlice 22 (.int .i64 0) (.int .i64 0)).run Tryz.prog w = .ok (.slice (some ⟨w.heap.size, 0, none⟩) 0 0) (w.alloc (.cells (madeCells #[.slice none 0 0] 0) 23)) := run_make_row' (P := Tryz.prog) 22 23 (.slice none 0 0) 24 Tryz.underlying22 Tryz.infoSlI64 rfl .i64 .i64 0 (by omega) (by omega)
          have hcell2 : ∀ o, (w5.alloc o).cell? ⟨wo.heap.size, 0, none⟩ = some (.slice none 0 0) := fun o => by rw [World.cell?_alloc_lt _ _ _ (by show wo.heap.size < _; omega)]; exact hcell
          clear hblk h1 h2 h3 HC
          go_wp2_with fail
          refine wp_loop_rounds 1 ?_
          rw [rounds_succ]
          go_wp2_with fail
          go_ret2
          refine ⟨?_, (HE.out.trans HE5.out).alloc _⟩
          rw [HIO.out]
          exact ⟨[], .refl _, (by intro i j a b _ h; simp at h), some ⟨w5.heap.size, 0, none⟩, rfl, RdM.nil _ _ _⟩
end Go.Proofs.YtennjcjjegbhgaaGreat
namespace Go.Proofs.YtennjcjjegbhgaaGreat
open Go.RowKit
def ltP (a b : Int × List Int) : Prop := a.1 < b.1 ∨ a.1 = b.1 ∧ cmpL a.2 b.2 < 0
instance (a b : Int × List Int) : Decidable (ltP a b) := inferInstanceAs (Decidable (_ ∨ _))
def putP (x : Int × List Int) : List (Int × List Int) → List (Int × List Int)
  | [] => [x]
  | a :: l => if ltP a x then a :: putP x l else if ltP x a then x :: a :: l else a :: l
def uniqP (l : List (Int × List Int)) : List (Int × List Int) := l.foldl (fun acc x => putP x acc) []
theorem ltP_irrefl (a : Int × List Int) : ¬ ltP a a := by
  unfold ltP; rw [cmpL_self]; omega
theorem ltP_trans {a b c : Int × List Int} (h1 : ltP a b) (h2 : ltP b c) : ltP a c := by
  unfold ltP at *
  rcases h1 with h1 | ⟨h1, h1'⟩ <;> rcases h2 with h2 | ⟨h2, h2'⟩
  · omega
  · omega
  · omega
  · exact .inr ⟨by omega, cmpL_trans h1' h2'⟩
theorem ltP_total {a b : Int × List Int} (h1 : ¬ ltP a b) (h2 : ¬ ltP b a) : a = b := by
  unfold ltP at *
  have ha := cmpL_anti a.2 b.2
  have e1 : a.1 = b.1 := by omega
  have e2 : cmpL a.2 b.2 = 0 := by omega
  exact Prod.ext e1 (cmpL_eq e2)
def Asc (l : List (Int × List Int)) : Prop := l.Pairwise ltP
theorem asc_ext : ∀ {l m : List (Int × List Int)}, Asc l → Asc m → (∀ x, x ∈ l ↔ x ∈ m) → l = m
  | [], [], _, _, _ => rfl
  | [], b :: m, _, _, h => by have := (h b).2 List.mem_cons_self; simp at this
  | a :: l, [], _, _, h => by have := (h a).1 List.mem_cons_self; simp at this
  | a :: l, b :: m, hl, hm, h => by
    obtain ⟨hl1, hl2⟩ := List.pairwise_cons.1 hl
    obtain ⟨hm1, hm2⟩ := List.pairwise_cons.1 hm
    have e : a = b := by
      rcases List.mem_cons.1 ((h a).1 List.mem_cons_self) with e | ha
      · exact e
      · rcases List.mem_cons.1 ((h b).2 List.mem_cons_self) with e | hb
        · exact e.symm
        · exact absurd (ltP_trans (hm1 a ha) (hl1 b hb)) (ltP_irrefl b)
    subst e
    rw [asc_ext hl2 hm2 (fun x => ?_)]
    constructor
    · intro hx
      rcases List.mem_cons.1 ((h x).1 (List.mem_cons_of_mem _ hx)) with e | hx'
      · subst e; exact absurd (hl1 x hx) (ltP_irrefl x)
      · exact hx'
    · intro hx
      rcases List.mem_cons.1 ((h x).2 (List.mem_cons_of_mem _ hx)) with e | hx'
      · subst e; exact absurd (hm1 x hx) (ltP_irrefl x)
      · exact hx'
theorem putP_mem {x y : Int × List Int} : ∀ {l : List (Int × List Int)}, y ∈ putP x l ↔ y = x ∨ y ∈ l
  | [] => by simp [putP]
  | a :: l => by
    unfold putP
    split
    · rw [List.mem_cons, putP_mem, List.mem_cons]
      constructor
      · rintro (h | h | h)
        · exact .inr (.inl h)
        · exact .inl h
        · exact .inr (.inr h)
      · rintro (h | h | h)
        · exact .inr (.inl h)
        · exact .inl h
        · exact .inr (.inr h)
    · split
      · rw [List.mem_cons]
      · rename_i h1 h2
        have e := ltP_total h2 h1
        constructor
        · exact .inr
        · rintro (h | h)
          · rw [h, e]; exact List.mem_cons_self
          · exact h
theorem putP_asc {x : Int × List Int} : ∀ {l : List (Int × List Int)}, Asc l → Asc (putP x l)
  | [], _ => by simp [putP, Asc]
  | a :: l, h => by
    obtain ⟨h1, h2⟩ := List.pairwise_cons.1 h
    unfold putP
    split
    · rename_i hlt
      refine List.pairwise_cons.2 ⟨fun y hy => ?_, putP_asc h2⟩
      rcases putP_mem.1 hy with e | hy
      · rw [e]; exact hlt
      · exact h1 y hy
    · split
      · rename_i hlt
        refine List.pairwise_cons.2 ⟨fun y hy => ?_, h⟩
        rcases List.mem_cons.1 hy with e | hy
        · rw [e]; exact hlt
        · exact ltP_trans hlt (h1 y hy)
      · exact h
theorem fold_asc : ∀ (l acc : List (Int × List Int)), Asc acc → Asc (l.foldl (fun acc x => putP x acc) acc) ∧ ∀ y, y ∈ l.foldl (fun acc x => putP x acc) acc ↔ y ∈ l ∨ y ∈ acc
  | [], acc, h => ⟨h, fun y => by simp⟩
  | x :: l, acc, h => by
    obtain ⟨h1, h2⟩ := fold_asc l (putP x acc) (putP_asc h)
    refine ⟨h1, fun y => ?_⟩
    show y ∈ l.foldl _ (putP x acc) ↔ _
    rw [h2, putP_mem, List.mem_cons]
    constructor
    · rintro (h | h | h)
      · exact .inl (.inr h)
      · exact .inl (.inl h)
      · exact .inr h
    · rintro ((h | h) | h)
      · exact .inr (.inl h)
      · exact .inl h
      · exact .inr (.inr h)
theorem uniqP_asc (l : List (Int × List Int)) : Asc (uniqP l) := (fold_asc l [] (by simp [Asc])).1
theorem uniqP_mem {l : List (Int × List Int)} {y : Int × List Int} : y ∈ uniqP l ↔ y ∈ l := by
  unfold uniqP; rw [(fold_asc l [] (by simp [Asc])).2]; simp
theorem cmpIt_lt {a b : NItem} : cmpIt a b < 0 ↔ ltP a.dat b.dat := by unfold cmpIt ltP; rw [cmpN_lt]; rfl
theorem eqIt_iff {a b : NItem} : eqIt a b = true ↔ a.dat = b.dat := by
  unfold eqIt cmpIt
  rw [beq_iff_eq, cmpN_zero]
  constructor
  · rintro ⟨h1, h2⟩; exact Prod.ext h1 h2
  · intro h; exact ⟨congrArg Prod.fst h, congrArg Prod.snd h⟩
theorem compGo_spec : ∀ {l : List NItem} {p : NItem}, (∀ (i j : Nat) a b, i < j → (p :: l)[i]? = some a → (p :: l)[j]? = some b → ¬ cmpIt b a < 0) →
    Asc ((p :: compGo p l).map NItem.dat) ∧ ∀ y, y ∈ (p :: compGo p l).map NItem.dat ↔ y ∈ (p :: l).map NItem.dat
  | [], p, _ => by simp [compGo, Asc]
  | b :: l, p, h => by
    have hs : ∀ (i j : Nat) a c, i < j → (b :: l)[i]? = some a → (b :: l)[j]? = some c → ¬ cmpIt c a < 0 := fun i j a c hij ha hc => h (i + 1) (j + 1) a c (by omega) (by simpa using ha) (by simpa using hc)
    obtain ⟨h1, h2⟩ := compGo_spec hs
    have hpb : ¬ cmpIt b p < 0 := h 0 1 p b (by omega) rfl rfl
    unfold compGo
    split
    · rename_i e
      rw [eqIt_iff] at e
      simp only [List.map_cons] at h1 h2 ⊢
      rw [← e]
      refine ⟨h1, fun y => ?_⟩
      rw [h2 y]
      simp
    · rename_i e
      rw [eqIt_iff] at e
      refine ⟨?_, fun y => ?_⟩
      · rw [List.map_cons]
        refine List.pairwise_cons.2 ⟨fun y hy => ?_, h1⟩
        rw [h2 y] at hy
        obtain ⟨c, hc, rfl⟩ := List.mem_map.1 hy
        obtain ⟨j, hj, hjc⟩ := List.getElem_of_mem hc
        have q : ¬ cmpIt c p < 0 := h 0 (j + 1) p c (by omega) rfl (by simp; rw [List.getElem?_eq_getElem hj, hjc])
        rw [cmpIt_lt] at q
        by_cases hlt : ltP p.dat c.dat
        · exact hlt
        · have e2 := ltP_total q hlt
          exfalso
          have q2 : ¬ cmpIt c b < 0 := by
            cases j with
            | zero => simp at hjc; subst hjc; unfold cmpIt; rw [cmpN_lt, cmpL_self]; omega
            | succ j => exact hs 0 (j + 1) b c (by omega) rfl (by rw [List.getElem?_eq_getElem hj, hjc])
          rw [cmpIt_lt, e2] at q2
          rw [cmpIt_lt] at hpb
          exact e (ltP_total hpb q2)
      · rw [List.map_cons, List.mem_cons, h2 y]
        simp
theorem compact_uniq {L : List NItem} {ks : List (Int × List Int)} (hp : (L.map NItem.dat).Perm ks) (hs : SortedL L) : (compact L).map NItem.dat = uniqP ks := by
  have hc : Asc ((compact L).map NItem.dat) ∧ ∀ y, y ∈ (compact L).map NItem.dat ↔ y ∈ L.map NItem.dat := by
    cases L with
    | nil => simp [compact, Asc]
    | cons a l => exact compGo_spec hs
  refine asc_ext hc.1 (uniqP_asc ks) (fun x => ?_)
  rw [hc.2 x, uniqP_mem]
  exact hp.mem_iff
theorem compact_vals {L : List NItem} {ks : List (Int × List Int)} (hp : (L.map NItem.dat).Perm ks) (hs : SortedL L) : (compact L).map NItem.vals = (uniqP ks).map Prod.snd := by
  rw [← compact_uniq hp hs, List.map_map]
  rfl
def SUV (w' : World) (r : Option (List (Int × List Int))) (e : Ending) : Prop := match r with
  | none => e = .returned (.tuple #[.slice none 0 0, .bool false])
  | some ks => ∃ A, e = .returned (.tuple #[.slice A ((uniqP ks).map Prod.snd).length ((uniqP ks).map Prod.snd).length, .bool true]) ∧ RdM .i64 w' A ((uniqP ks).map Prod.snd)
theorem SUPost.plain {w' : World} {r : Option (List (Int × List Int))} {e : Ending} (h : SUPost w' r e) : SUV w' r e := by
  cases r with
  | none => exact h
  | some ks =>
    obtain ⟨L, hp, hs, A, he, hrd⟩ := h
    refine ⟨A, ?_, ?_⟩
    · rw [← compact_vals hp hs]; simpa using he
    · rw [← compact_vals hp hs]; exact hrd
theorem sortUnique_plain (A B : Option Addr) (c d : Nat) (rows l : List (List Int)) (w : World) (hR : RdM .i64 w A rows) (hl : RdM .i64 w B l) (lr : rows.length ≤ 9223372036854775807) (hc : rows.length ≤ c) (ll : l.length ≤ 65536) :
    Calls Tryz.prog 22 #[.slice A rows.length c, .slice B l.length d] w fun e w' => SUV w' (if isReducedM rows then itemsO rows l else none) e ∧ Ext w w' :=
  (sortUnique_any A B c d rows l w hR hl lr hc ll).mono fun _ _ ⟨h1, h2⟩ => ⟨h1.plain, h2⟩
end Go.Proofs.YtennjcjjegbhgaaGreat
namespace Go.Proofs.YtennjcjjegbhgaaGreat
open Go.RowKit
set_option maxRecDepth 100000 in
set_option maxHeartbeats 1000000 in
theorem same_any (A B : Option Addr) (c d : Nat) (a b : List (List Int)) (w : World) (ha : RdM .i64 w A a) (hb : RdM .i64 w B b) (la : a.length ≤ 9223372036854775807) (lb : b.length ≤ 9223372036854775807) :
    Calls Tryz.prog 24 #[.slice A a.length c, .slice B b.length d] w fun e w' => e = .returned (.bool (decide (a = b))) ∧ Ext w w' := by
  have HA := Lib.hid ha
  have HB := Lib.hid hb
  clear ha hb
  by_cases hl : a.length = b.length
  · have hlb : ((a.length : Int) != (b.length : Int)) = false := by simp [hl]
    have HL := Lib.hid hl
    have hle : a.length ≤ b.length := by omega
    clear hl
    go_enter Tryz.func24, Tryz.ntmps24
    go_wp2_with fail
    clear hlb
    go_loopw [13, 5] (fun i _ wr => ∃ k : Nat, k ≤ a.length ∧ i = .int .i64 k ∧ Hid (Ext w wr) ∧ Hid (∀ j, j < k → a[j]? = b[j]?)) (fun i _ _ => a.length - (intOf i).toNat)
    case atStart => exact ⟨0, Nat.zero_le _, rfl, Lib.hid (Ext.refl _), Lib.hid (fun j h => by omega)⟩
    case round =>
      obtain ⟨k, hk, rfl, HE, HQ⟩ := hrel
      by_cases hlt : k < a.length
      · obtain ⟨x, hx⟩ := getElem?_of_lt hlt
        obtain ⟨y, hy⟩ := getElem?_of_lt (l := b) (k := k) (by omega)
        obtain ⟨b1, o1, B1, c1, rfl, hc1, hcl1, hlx, hr1⟩ := (HA.out.ext HE.out.drew).at_ hx
        obtain ⟨b2, o2, B2, c2, rfl, hc2, hcl2, hly, hr2⟩ := (HB.out.ext HE.out.drew).at_ hy
        have HX := Lib.hid hx
        have HY := Lib.hid hy
        have HR1 := Lib.hid hr1
        have HR2 := Lib.hid hr2
        have HE1 := Lib.hid HE.out.drew
        have hkb : (k : Int) < (b.length : Int) := by omega
        clear hx hy hr1 hr2 HE
        go_wp2_with fail
        refine region_still_tail 8 (by kernel_rfl) (by kernel_rfl) ?_
        simp only [List.take_succ_cons, List.take_zero, List.drop_succ_cons, List.drop_zero]
        generalize wr.drew = w3 at *
        iterate 8 still_step
        refine wpStill_nil ?_
        have HC := Lib.hid (refCompare_any B1 B2 c1 c2 x y w3 HR1.out HR2.out hlx hly)
        clear hc1 hc2
        by_cases h0 : cmpL x y = 0
        · have h0' : (cmpL x y != 0) = false := by simp [h0]
          have H0 := Lib.hid h0
          clear h0
          go_wp2_with fail
          refine HC.out.mono ?_
          rintro e w4 ⟨rfl, n, rfl⟩
          go_wp2_with fail
          go_roundw
          case rel =>
            refine ⟨k + 1, by omega, by go_num, Lib.hid (HE1.out.drewN n), Lib.hid (fun j hj => ?_)⟩
            by_cases e : j = k
            · subst e; rw [HX.out, HY.out, cmpL_eq H0.out]
            · exact HQ.out j (by omega)
          case measure => simp [intOf]; omega
        · have h0' : (cmpL x y != 0) = true := by simp [h0]
          go_wp2_with fail
          refine HC.out.mono ?_
          rintro e w4 ⟨rfl, n, rfl⟩
          go_wp2_with fail
          go_ret
          refine ⟨ret_undec (fun h => ?_), HE1.out.drewN n⟩
          subst h
          have h1 := HX.out
          rw [HY.out] at h1
          cases h1
          exact h0 (cmpL_self _)
      · go_wp2_with fail
        go_ret
        refine ⟨ret_dec ?_, HE.out⟩
        apply List.ext_getElem?
        intro j
        rcases Nat.lt_or_ge j a.length with h | h
        · exact HQ.out j (by omega)
        · rw [List.getElem?_eq_none h, List.getElem?_eq_none (by have := HL.out; omega)]
  · have hlb : ((a.length : Int) != (b.length : Int)) = true := by simp; omega
    go_enter Tryz.func24, Tryz.ntmps24
    go_wp2_with fail
    go_ret
    exact ⟨ret_undec (fun h => hl (by rw [h])), Ext.refl _⟩
end Go.Proofs.YtennjcjjegbhgaaGreat
namespace Go.Proofs.YtennjcjjegbhgaaGreat
open Go.RowKit
theorem rdI_two {w : World} {b : Nat} {x y : Int} (h0 : w.cell? ⟨b, 0, none⟩ = some (.int .i64 x)) (h1 : w.cell? ⟨b, 1, none⟩ = some (.int .i64 y)) : RdI .i64 w (some ⟨b, 0, none⟩) [x, y] := fun _ => ⟨b, 0, rfl, fun i u hu => by
  match i, hu with
  | 0, hu => simp at hu; subst hu; exact h0
  | 1, hu => simp at hu; subst hu; exact h1⟩
theorem rdI_three {w : World} {b : Nat} {x y z : Int} (h0 : w.cell? ⟨b, 0, none⟩ = some (.int .i64 x)) (h1 : w.cell? ⟨b, 1, none⟩ = some (.int .i64 y)) (h2 : w.cell? ⟨b, 2, none⟩ = some (.int .i64 z)) : RdI .i64 w (some ⟨b, 0, none⟩) [x, y, z] := fun _ => ⟨b, 0, rfl, fun i u hu => by
  match i, hu with
  | 0, hu => simp at hu; subst hu; exact h0
  | 1, hu => simp at hu; subst hu; exact h1
  | 2, hu => simp at hu; subst hu; exact h2⟩
theorem slI_two {w : World} {b : Nat} {x y : Int} (h0 : w.cell? ⟨b, 0, none⟩ = some (.int .i64 x)) (h1 : w.cell? ⟨b, 1, none⟩ = some (.int .i64 y)) : SlI .i64 w (.slice (some ⟨b, 0, none⟩) 2 2) [x, y] :=
  ⟨some ⟨b, 0, none⟩, 2, rfl, by simp, by simp, rdI_two h0 h1⟩
def hexH : List (List Int) := [[2, 1], [1, 2]]
theorem hex_items : (if isReducedM hexH then itemsO hexH [[-1, 1], [0, 2], [1, -1], [1, 0]] else none) = some [(2, [1, -1]), (8, [0, 2]), (2, [1, -1]), (2, [1, 0])] := by decide +kernel
theorem hex_uniq : (uniqP [(2, [1, -1]), (8, [0, 2]), (2, [1, -1]), (2, [1, 0])]).map Prod.snd = [[1, -1], [1, 0], [0, 2]] := by decide +kernel
theorem hex_norm : innerV hexH [1, -1] [1, -1] = .tuple #[.int .i64 2, .bool true] := by
  unfold innerV
  rw [if_pos (by decide +kernel)]
  rw [show accZ [1, -1] (applyM hexH [1, -1]) [1, -1].length = 2 from by decide +kernel]
  rfl
theorem hex_canon : canonS [0, -3, 1] = some [0, 3, -1] := by decide +kernel
theorem su_hex (w W : World) (A B : Option Addr) (hE : Ext w W) (h1 : RdM .i64 W A hexH) (h2 : RdM .i64 W B [[-1, 1], [0, 2], [1, -1], [1, 0]]) :
    Calls Tryz.prog 22 #[.slice A 2 2, .slice B 4 4] W fun e w' => ∃ C, e = .returned (.tuple #[.slice C 3 3, .bool true]) ∧ RdM .i64 w' C [[1, -1], [1, 0], [0, 2]] ∧ RdM .i64 w' A hexH ∧ Ext w w' := by
  refine (sortUnique_plain A B 2 4 hexH _ W h1 h2 (by decide) (by decide) (by decide)).mono fun e w' ⟨hs, he⟩ => ?_
  rw [hex_items] at hs
  obtain ⟨C, hr, hrd⟩ := hs
  rw [hex_uniq] at hr hrd
  exact ⟨C, hr, hrd, h1.ext he, hE.trans he⟩
theorem norm_hex (w W : World) (A B C : Option Addr) (hE : Ext w W) (h1 : RdM .i64 W A hexH) (h2 : RdI .i64 W B [1, -1]) (h3 : RdM .i64 W C [[1, -1], [1, 0], [0, 2]]) :
    Calls Tryz.prog 18 #[.slice A 2 2, .slice B 2 2] W fun e w' => e = .returned (.tuple #[.int .i64 2, .bool true]) ∧ RdM .i64 w' C [[1, -1], [1, 0], [0, 2]] ∧ Ext w w' := by
  refine (norm_any A B 2 2 hexH [1, -1] W h1 h2 (by decide) (by decide) (by decide)).mono fun e w' ⟨hs, he⟩ => ?_
  rw [hex_norm] at hs
  exact ⟨hs, h3.ext he, hE.trans he⟩
theorem canon_hex (w W : World) (B C : Option Addr) (hE : Ext w W) (h2 : RdI .i64 W B [0, -3, 1]) (h3 : RdM .i64 W C [[1, -1], [1, 0], [0, 2]]) :
    Calls Tryz.prog 46 #[.slice B 3 3] W fun e w' => ∃ D c, e = .returned (.tuple #[.slice D 3 c, .bool true]) ∧ RdI .i64 w' D [0, 3, -1] ∧ RdM .i64 w' C [[1, -1], [1, 0], [0, 2]] ∧ Ext w w' := by
  refine (canonicalSign_any B 3 [0, -3, 1] W h2 (by decide)).mono fun e w' ⟨hs, he⟩ => ?_
  rw [hex_canon] at hs
  obtain ⟨D, c, hr, _, hrd, _⟩ := hs
  exact ⟨D, c, hr, hrd, h3.ext he, hE.trans he⟩
theorem same_hex (w W : World) (A C D : Option Addr) (hE : Ext w W) (h1 : RdM .i64 W A [[1, -1], [1, 0], [0, 2]]) (h2 : RdM .i64 W C [[1, -1], [1, 0], [0, 2]]) (h3 : RdI .i64 W D [0, 3, -1]) :
    Calls Tryz.prog 24 #[.slice A 3 3, .slice C 3 3] W fun e w' => e = .returned (.bool true) ∧ RdI .i64 w' D [0, 3, -1] ∧ Ext w w' :=
  (same_any A C 3 3 _ _ W h1 h2 (by decide) (by decide)).mono fun e w' ⟨hs, he⟩ => ⟨by rw [hs]; simp, h3.ext he, hE.trans he⟩
theorem compare_hex (w W : World) (D E : Option Addr) (c : Nat) (hE : Ext w W) (h1 : RdI .i64 W D [0, 3, -1]) (h2 : RdI .i64 W E [0, 3, -1]) :
    Calls Tryz.prog 26 #[.slice D 3 c, .slice E 3 3] W fun e w' => e = .returned (.int .i64 0) ∧ Ext w w' :=
  (refCompare_any D E c 3 _ _ W h1 h2 (by decide) (by decide)).mono fun e w' ⟨hs, n, hw⟩ => ⟨by rw [hs, cmpL_self], by rw [hw]; exact hE.drewN n⟩
set_option maxRecDepth 100000 in
set_option maxHeartbeats 2000000 in
theorem awake_any (w : World) : Calls Tryz.prog 17 #[] w fun e w' => e = .returned (.bool true) ∧ Ext w w' := by
  go_enter Tryz.func17, Tryz.ntmps17
  go_wp2_with fail
  refine (su_hex w _ _ _ ?_ ?_ ?_).mono ?_
  · repeat (first | exact Ext.refl _ | refine Ext.alloc ?_ _)
  · exact fun _ => ⟨_, 0, rfl, fun i r hr => by
      match i, hr with
      | 0, hr => simp [hexH] at hr; subst hr; exact ⟨.slice (some ⟨w.heap.size, 0, none⟩) 2 2, by go_simp, slI_two (by go_simp) (by go_simp)⟩
      | 1, hr => simp [hexH] at hr; subst hr; exact ⟨.slice (some ⟨w.heap.size + 1, 0, none⟩) 2 2, by go_simp, slI_two (by go_simp) (by go_simp)⟩⟩
  · exact fun _ => ⟨_, 0, rfl, fun i r hr => by
      match i, hr with
      | 0, hr => simp at hr; subst hr; exact ⟨.slice (some ⟨w.heap.size + 1 + 1 + 1, 0, none⟩) 2 2, by go_simp, slI_two (by go_simp) (by go_simp)⟩
      | 1, hr => simp at hr; subst hr; exact ⟨.slice (some ⟨w.heap.size + 1 + 1 + 1 + 1, 0, none⟩) 2 2, by go_simp, slI_two (by go_simp) (by go_simp)⟩
      | 2, hr => simp at hr; subst hr; exact ⟨.slice (some ⟨w.heap.size + 1 + 1 + 1 + 1 + 1, 0, none⟩) 2 2, by go_simp, slI_two (by go_simp) (by go_simp)⟩
      | 3, hr => simp at hr; subst hr; exact ⟨.slice (some ⟨w.heap.size + 1 + 1 + 1 + 1 + 1 + 1, 0, none⟩) 2 2, by go_simp, slI_two (by go_simp) (by go_simp)⟩⟩
  rintro e w1 ⟨C, rfl, hC, hH, he⟩
  have HC := Lib.hid hC
  have HH := Lib.hid hH
  have HE := Lib.hid he
  clear hC hH he
  go_wp2_with fail
  refine (norm_hex w _ _ _ C ?_ ?_ ?_ ?_).mono ?_
  · exact HE.out.alloc _
  · exact HH.out.ext ((Ext.refl _).alloc _)
  · exact rdI_two (by go_simp) (by go_simp)
  · exact HC.out.ext ((Ext.refl _).alloc _)
  rintro e w2 ⟨rfl, hC, he⟩
  have HC2 := Lib.hid hC
  have HE2 := Lib.hid he
  clear hC he HC HH HE
  go_wp2_with fail
  refine (canon_hex w _ _ C ?_ ?_ ?_).mono ?_
  · exact HE2.out.alloc _
  · exact rdI_three (by go_simp) (by go_simp) (by go_simp)
  · exact HC2.out.ext ((Ext.refl _).alloc _)
  rintro e w3 ⟨D, c, rfl, hD, hC, he⟩
  have HD := Lib.hid hD
  have HC3 := Lib.hid hC
  have HE3 := Lib.hid he
  clear hC he hD HC2 HE2
  go_wp2_with fail
  refine (same_hex w _ _ _ D ?_ ?_ ?_ ?_).mono ?_
  · repeat (first | exact HE3.out | refine Ext.alloc ?_ _)
  · exact HC3.out.ext (by repeat (first | exact Ext.refl _ | refine Ext.alloc ?_ _))
  · exact fun _ => ⟨_, 0, rfl, fun i r hr => by
      match i, hr with
      | 0, hr => simp at hr; subst hr; exact ⟨.slice (some ⟨w3.heap.size, 0, none⟩) 2 2, by go_simp, slI_two (by go_simp) (by go_simp)⟩
      | 1, hr => simp at hr; subst hr; exact ⟨.slice (some ⟨w3.heap.size + 1, 0, none⟩) 2 2, by go_simp, slI_two (by go_simp) (by go_simp)⟩
      | 2, hr => simp at hr; subst hr; exact ⟨.slice (some ⟨w3.heap.size + 1 + 1, 0, none⟩) 2 2, by go_simp, slI_two (by go_simp) (by go_simp)⟩⟩
  · exact HD.out.ext (by repeat (first | exact Ext.refl _ | refine Ext.alloc ?_ _))
  rintro e w4 ⟨rfl, hD, he⟩
  have HD4 := Lib.hid hD
  have HE4 := Lib.hid he
  clear he hD HC3 HE3 HD
  go_wp2_with fail
  refine (compare_hex w _ D _ c ?_ ?_ ?_).mono ?_
  · exact HE4.out.alloc _
  · exact HD4.out.ext ((Ext.refl _).alloc _)
  · exact rdI_three (by go_simp) (by go_simp) (by go_simp)
  rintro e w5 ⟨rfl, he⟩
  have HE5 := Lib.hid he
  clear he HE4 HD4
  go_wp2_with fail
  go_ret
  exact ⟨rfl, HE5.out⟩
end Go.Proofs.YtennjcjjegbhgaaGreat
namespace Go.Proofs.YtennjcjjegbhgaaGreat
open Go.RowKit
theorem awake_C : CallC Tryz.prog 17 [] ⟨[], .raw (.bool true)⟩ := by
  refine callC_ext (by kernel_rfl) fun X w vs hX hvs ha => ?_
  obtain rfl : vs = #[] := by
    apply Array.ext_getElem?
    intro j
    rw [Array.getElem?_eq_none (by simp at hvs; simp [hvs])]; rfl
  exact (awake_any w).mono fun e w' ⟨h1, h2⟩ => ⟨_, h1, fun _ _ _ => rel_bool _, h2⟩
theorem CallC.law {P : Program} {f : FuncId} {args : List TV} {b : Bool} (h : CallC P f args ⟨[], .raw (.bool b)⟩) {w : World} {vs : Array Value} (hvs : vs.size = args.length)
    (ha : ∀ (j : Nat) t, args[j]? = some t → ∃ v : Value, vs[j]? = some v ∧ t.rel (fun _ _ => none) (fun _ => []) (fun _ => False) w v) : Calls P f vs w fun e w' => e = .returned (.bool b) ∧ Ext w w' :=
  (h.calls hvs ha).mono fun e w' ⟨v, h1, ⟨ρ, H, X, h2⟩, h3⟩ => ⟨by rw [h1, rep_raw h2], h3⟩
end Go.Proofs.YtennjcjjegbhgaaGreat
namespace Go.Proofs.YtennjcjjegbhgaaGreat
open Go.RowKit
def vcF (L : List Int) : Nat → Int := fun i => L.getD (adv L 0 i) 0
abbrev sl8 (l : List Int) : TV := .one (.p (.sl (ls f8 l)))
def vcP (L : List Int) (i : Nat) : Nat → Int := fun j => if j < i then vcF L j else 0
theorem vcP_step (L : List Int) (i j : Nat) : (if j = i then vcF L i else vcP L i j) = vcP L (i + 1) j := by
  unfold vcP
  by_cases h : j = i
  · subst h; simp
  · have : j < i + 1 ↔ j < i := by omega
    simp [h, this]
theorem lcI_set (l : List Int) (k : Nat) (v : Int) : (lc fI l).set k [AV.p (.raw (.int .i64 v))] = lc fI (l.set k v) := by simp [lc, fI, List.map_set]
theorem rep_row0 (n : Nat) (L : List Int) : List.replicate n [AV.p (.raw (.int .i64 0))] = lc fI (rowF n (vcP L 0)) := by
  apply List.ext_getElem?
  intro j
  rw [List.getElem?_replicate, lc_get]
  by_cases hj : j < n
  · rw [if_pos hj, rowF_get _ hj]; simp [vcP, fI]
  · rw [if_neg hj, List.getElem?_eq_none (by rw [rowF_len]; omega)]; rfl
set_option maxRecDepth 100000 in
set_option maxHeartbeats 16000000 in
theorem Vector_C (L : List Int) (n : Nat) (hL : I8 L) (hn : n ≤ 16) : CallC Tryz.prog 14 [sl8 L, .raw (.int .i64 (n : Int))] ⟨[⟨2, 1, lc fI (rowF n (vcF L))⟩], .one (.sl 0 0 0 n)⟩ := by
  refine callC_of Tryz.func14 rfl (by kernel_rfl) ?_; rw [Tryz.ntmps14]
  (refine WpA_sreg [] [] (by simp) fun K hK => ?_; simp (disch := omega) only [kc, prep1, sl8, Nat.reduceAdd, List.replicate, ofConst, Value.oneCell']; (with_reducible refine hK _ ?_))
  (refine WpA_sreg [] [] (by simp) fun K hK => ?_; simp (disch := omega) only [kc, prep1, Nat.reduceAdd, opS_build, effR, ty_zero69, ty_plc69, Value.oneCell', fillA, cellsOf, Nat.reduceLeDiff, ifT, opS_box, newS, effA, isPure]; (with_reducible refine hK _ ?_))
  refine WpA_lend 10 (cs := tcs L 0) rfl fun b => ?_
  refine WpT.weak (Weak_sub (tm := [jk, .raw (.int .i64 (n : Int)), jk, jk, jk, tptr b, jk, jk, jk, jk, jk, jk, jk, jk, jk, jk, jk, jk, jk, jk, jk, jk, jk, jk, jk]) (l := []) trivial (by simp [wkL, okTV, okAV, lnTV, lnAV])) ?_
  (refine WpT_sreg [] [] (by simp) fun K hK => ?_; simp (disch := omega) only [kc, prep1, Nat.reduceAdd, tptr, Hm, opS_makeSlice, newS, effA, ty_slice23, ty_zero2, ty_sz2, ty_by2, Int.natCast_nonneg, Value.oneCell', and_true, rep_row0 n L, ifT]; (with_reducible refine hK _ ?_))
  (refine WpT_seq (WpT_sreg [] [] (by simp) fun K hK => ?_); simp (disch := omega) only [kc, prep1, Nat.reduceAdd, opS_len, effR, ty_slice23, ofConst, Value.oneCell']; (with_reducible refine hK _ ?_))
  refine WpT_forb (G := FiG n) (fun g => ⟨[jk, jk, jk, jk, jk, tptr b, .one (.sl 12 0 0 n), jk, jk, jk, jk, jk, jk, jk, .raw (.int .i64 (n : Int)), .raw (.int .i64 (g.i : Int)), jk, jk, jk, jk, jk, jk, jk, jk, jk], Hm [(12, [⟨2, 1, lc fI (rowF n (vcP L g.i))⟩])]⟩) (fun g => tcs L (adv L 0 g.i)) (fun g => n - g.i) ⟨0, by omega⟩ ?_ rfl ?_
  · refine Weak_sub ⟨?_, trivial⟩ ?_
    · show [_] = [_]
      rw [← rep_row0 n L]
    · simp [wkL, okTV, okAV]
  · rintro ⟨i, hi⟩
    simp only
    by_cases hm : i < n
    · have c1 := Next_T b L (adv L 0 i) hL (adv_le (by omega) i)
      rw [show L.getD (adv L 0 i) 0 = vcF L i from rfl] at c1
      have g1 := rowF_get (vcP L i) hm
      (refine WpT_sreg [] [] (by simp) fun K hK => ?_; simp (disch := omega) only [kc, prep1, tptr, Hm, effM, evBin, decT]; (with_reducible refine hK _ ?_))
      refine WpT_seq (WpT_cond rfl (fun _ => WpT_skip ?_) (fun h => by simp at h <;> omega))
      refine WpT_seq (WpT_block ?_)
      (refine WpT_sreg [] [] (by simp) fun K hK => ?_; simp (disch := omega) only [kc, prep1]; (with_reducible refine hK _ ?_))
      ((refine WpT_llent 3 c1 [] [] (by kernel_rfl) (by rfl) (by rfl) (by simp) fun K hK => ?_); simp (disch := omega) only [kc, tptr, prep1, Nat.reduceAdd, opS_call, newS, effA, List.find?_cons, evAll, norm, CallRes.plain, rawTV, rawAV, normOk, noRefTV, noRefAV, renTV, renAV, opS_indexAddr, effR, natOf_pos, ty_slice23, ty_sz2, ifT, opS_store, wrS, effD, lc_get, fI, g1, cellsOf, Nat.le_refl, isPure, putCells, lcI_set, rowF_set, killTV, killAV]; (with_reducible refine hK _ ?_))
      show WpT _ _ _ _ _ _ _
      ((refine WpT_lreg [] [] (by simp) fun K hK => ?_); simp (disch := omega) only [kc, prep1, effM, ofConst, Value.oneCell', evBin, wrapI]; (with_reducible refine hK _ ?_))
      refine ⟨⟨i + 1, by omega⟩, by simp only; omega, Weak_sub ⟨?_, trivial⟩ ?_, rfl⟩
      · show [_] = [_]
        rw [rowF_congr fun j _ => vcP_step L i j]
      · simp [wkL, okTV, okAV]
    · have hin : i = n := by omega
      subst hin
      (refine WpT_sreg [] [] (by simp) fun K hK => ?_; simp (disch := omega) only [kc, prep1, tptr, Hm, effM, evBin, decF]; (with_reducible refine hK _ ?_))
      refine WpT_seq (WpT_cond rfl (fun h => by simp at h <;> omega) (fun _ => WpT_exit ?_))
      show WpT _ _ _ _ _ _ _
      rw [rowF_congr (g := vcP L i) (g' := vcF L) fun j hj => by unfold vcP; rw [if_pos hj]]
      (refine WpT_sreg [] [] (by simp) fun K hK => ?_; simp (disch := omega) only [kc, prep1]; (with_reducible refine hK _ ?_))
      refine WpT_ret ⟨.inr rfl, _, Weak.refl _, ?_⟩
      refine ⟨.one (.sl 12 0 0 i), 12, ?_, rfl, ?_, rfl⟩
      · simp (disch := omega) only [resA, Tryz.results14, resOne, List.getElem?_cons_succ, List.getElem?_cons_zero]
      · show _ = [_]
        simp [renO, lc_ren]
theorem MI_red {h : Nat → Nat → Int} {n : Nat} (hn1 : 1 ≤ n) (hn : n ≤ 8) (hr : RedR h n) : MI (mat n n h) := fun r hr' z hz => by
  obtain ⟨i, hi, rfl⟩ := List.mem_map.1 hr'
  obtain ⟨j, hj, rfl⟩ := List.mem_map.1 hz
  have := ent_small hn1 hn hr i (List.mem_range.1 hi) j (List.mem_range.1 hj)
  exact ⟨by omega, by omega⟩
set_option maxRecDepth 100000 in
set_option maxHeartbeats 16000000 in
theorem lawNorms_C (dim kind : Nat) (L B K J : List Int) (hL : I8 L) (hdim : dim ≤ 255) (hkind : kind ≤ 255) (hK : I8 K) (hJ : I8 J) :
    CallC Tryz.prog 4 [tL dim kind L B, sl8 K, sl8 J] ⟨[], .raw (.bool true)⟩ := by
  obtain ⟨n, hn⟩ : ∃ n, n = 1 + dim % 5 := ⟨_, rfl⟩
  obtain ⟨h, hr, cF⟩ := Form_C dim kind L B 5 n hL hdim hkind (by omega) (by omega) hn
  rw [show ((5 : Nat) : Int) = 5 from rfl] at cF
  have hM := MI_red (by omega) (by omega) hr
  have hml := mat_len n n h
  have v1 := Vector_C K n hK (by omega)
  have v2 := Vector_C J n hJ (by omega)
  generalize mat n n h = M at *
  generalize vcF K = vk at *
  generalize vcF J = vj at *
  have c1 := pNorm_C M (rowF n vk)
  have c2 := Norm_C M (rowF n vk) hM
  have c3 := pInner_C M (rowF n vk) (rowF n vj)
  have c4 := Inner_C M (rowF n vk) (rowF n vj) hM
  obtain ⟨v, b, e1, _⟩ := innT_cases M (rowF n vk) (rowF n vk)
  obtain ⟨v', b', e2, _⟩ := innT_cases M (rowF n vk) (rowF n vj)
  rw [e1] at c1 c2
  rw [e2] at c3 c4
  have c5 := awake_C
  refine callC_of Tryz.func4 rfl (by kernel_rfl) ?_; rw [Tryz.ntmps4]
  (refine WpA_sreg [] [] (by simp) fun K hK => ?_; simp (disch := omega) only [kc, prep1, tL, sl8, Nat.reduceAdd, List.replicate, opS_box, newS, effA, cellsOf, isPure, ifT, ofConst, Value.oneCell']; (with_reducible refine hK _ ?_))
  (refine WpA_sreg [⟨1, _, _, _, cF⟩] [] (by simp) fun K hK => ?_; simp (disch := omega) only [kc, tL, slI, CItem.a, prep1, Nat.reduceAdd, effR, updH, packT, ty_sz26, ty_agg26, Nat.le_refl, opS_call, newS, effA, List.find?_cons, evAll, ofConst, Value.oneCell', norm, CallRes.plain, rawTV, rawAV, normOk, isPure, noRefTV, noRefAV, renTV, renAV]; (with_reducible refine hK _ ?_))
  (refine WpA_sreg [⟨3, _, _, _, v1⟩, ⟨7, _, _, _, v2⟩] [] (by simp) fun K hK => ?_; simp (disch := omega) only [kc, sl8, CItem.a, prep1, Nat.reduceAdd, opS_len, effR, ty_slice22, ls_len, hml, opS_call, newS, effA, List.find?_cons, evAll, norm, CallRes.plain, List.isEmpty_cons, rawTV, rawAV, normOk, Bool.not_false, noRefTV, noRefAV, Bool.or_false, renTV, renAV, renO, lc_ren, updH, Nat.reduceEqDiff, Nat.reduceBEq, ifF]; (with_reducible refine hK _ ?_))
  refine WpA.weak ((Weak_fz 23 (fzOk_one rfl)).trans ((Weak_fz 27 (fzOk_one rfl)).trans (Weak_sub (tm := [jk, jk, jk, jk, jk, jk, jk, slI M, sl1 (rowF n vk), sl1 (rowF n vj), jk, jk, jk, jk, jk, jk, jk, jk, jk, jk, jk, jk, jk, jk, jk, jk, jk, jk, jk, jk, jk, jk, jk, jk, jk, jk, jk, jk, jk, jk, jk, jk, jk, jk, jk, jk, jk, jk, jk, jk, jk, jk, jk, jk, jk, jk, jk, jk, jk, jk, jk, jk, jk, jk, jk, jk, jk, jk, jk, jk, jk, jk, jk, jk, jk]) (l := []) trivial (by simp [wkL, okTV, okAV, fzTV, fzAV, updH, lc_take, lc_cellF, List.take_of_length_le, rowF_len])))) ?_
  (refine WpA_sreg [⟨2, _, _, _, c1⟩] [] (by simp) fun K hK => ?_; simp (disch := omega) only [kc, slI, sl1, tvI, CItem.a, prep1, Nat.reduceAdd, Hm, opS_call, newS, effA, List.find?_cons, evAll, norm, CallRes.plain, rawTV, rawAV, normOk, noRefTV, noRefAV, renTV, renAV, opS_extract, effM]; (with_reducible refine hK _ ?_))
  (refine WpA_sreg [⟨2, _, _, _, c2⟩] [] (by simp) fun K hK => ?_; simp (disch := omega) only [kc, slI, sl1, tvI, CItem.a, prep1, Nat.reduceAdd, opS_call, newS, effA, List.find?_cons, evAll, norm, CallRes.plain, rawTV, rawAV, normOk, noRefTV, noRefAV, renTV, renAV, opS_extract, effM]; (with_reducible refine hK _ ?_))
  (refine WpA_sreg [⟨3, _, _, _, c3⟩] [] (by simp) fun K hK => ?_; simp (disch := omega) only [kc, slI, sl1, tvI, CItem.a, prep1, Nat.reduceAdd, opS_call, newS, effA, List.find?_cons, evAll, norm, CallRes.plain, rawTV, rawAV, normOk, noRefTV, noRefAV, renTV, renAV, opS_extract, effM]; (with_reducible refine hK _ ?_))
  (refine WpA_sreg [⟨3, _, _, _, c4⟩] [] (by simp) fun K hK => ?_; simp (disch := omega) only [kc, slI, sl1, tvI, CItem.a, prep1, Nat.reduceAdd, opS_call, newS, effA, List.find?_cons, evAll, norm, CallRes.plain, rawTV, rawAV, normOk, noRefTV, noRefAV, renTV, renAV, opS_extract, effM]; (with_reducible refine hK _ ?_))
  (refine WpA_sreg [⟨19, _, _, _, c5⟩] [] (by simp) fun K hK => ?_; simp (disch := omega) only [kc, CItem.a, prep1, Nat.reduceAdd, effM, evBin, decT, stS_guard, ty_bool4, ifT, opS_pick, opS_call, newS, effA, List.find?_cons, evAll, CallRes.plain, rawTV, rawAV, noRefTV, noRefAV, renTV, renAV]; (with_reducible refine hK _ ?_))
  (refine WpA_ret ⟨.inr rfl, ret_now rfl ?_ rfl⟩; simp (disch := omega) only [resA, Tryz.results4, resOne, List.getElem?_cons_succ, List.getElem?_cons_zero])
end Go.Proofs.YtennjcjjegbhgaaGreat
namespace Go.Proofs.YtennjcjjegbhgaaGreat
open Go.ChangeShapes Go.WideShapes Go.ChangeAt Go.RowKit
theorem rd8_rep {w : World} {l : List Int} {A : Option Addr} {c : Nat} (hl : l.length ≤ c) (hm : l.length ≤ 9223372036854775807) (h : RdI .i8 w A l) : Rep (fun _ => False) w (.sl (ls f8 l)) (.slice A l.length c) := by
  cases l with
  | nil => exact Rep.nil _ _
  | cons z0 l0 =>
    obtain ⟨b, off, rfl, hc⟩ := h (by simp)
    have h0 := hc 0 (.int .i8 z0) (by simp)
    have hb : b < w.heap.size := cell_lt h0
    have := Rep.sl (X := fun _ => False) (w := w) b off 1 c (ls f8 (z0 :: l0)) (fun i _ => .int .i8 ((z0 :: l0).getD i 0)) (fun h => h) hb (fun e he => by
      obtain ⟨z, _, rfl⟩ := List.mem_map.1 he
      rfl) (by rw [ls_len]; exact hl) (by rw [ls_len]; exact hm) (fun i e j x he hx => by
      rw [ls_get] at he
      obtain ⟨z, hz, rfl⟩ := Option.map_eq_some_iff.1 he
      cases j with
      | succ j => simp [f8] at hx
      | zero =>
        have := hc i (.int .i8 z) (by rw [List.getElem?_map, hz]; rfl)
        simp only [Nat.mul_one, Nat.add_zero, List.getD_eq_getElem?_getD, hz, Option.getD_some]
        exact this) (fun i e j x he hx => by
      rw [ls_get] at he
      obtain ⟨z, hz, rfl⟩ := Option.map_eq_some_iff.1 he
      cases j with
      | succ j => simp [f8] at hx
      | zero =>
        simp [f8] at hx
        subst hx
        simp only [List.getD_eq_getElem?_getD, hz, Option.getD_some]
        exact Rep.raw _ rfl)
    rw [ls_len] at this
    exact this
theorem open_cell8 {H : Type} {enc : TypeId × Value → H} {P : Program} {W : World} {base : Nat} {held : Bool} {t e : TypeId} {n : Nat} {v : Value} {y : DataW H × List MemPlace}
    (ht : P.underlying t = some (.slice e)) (he : P.underlying e = some (.int .i8)) (hc : P.cellsOf e = 1) (h : DataW.trod enc P W base (fun _ => true) held n t [v] = some y) :
    ∃ L : List Int, Rep (fun _ => False) W (.sl (ls f8 L)) v ∧ I8 L := by
  rcases DataW.trod_slice ht h with ⟨hcs, _⟩ | ⟨x, l, c, _, _, _, _, hcs, _⟩
  · simp at hcs
    subst hcs
    exact ⟨[], Rep.nil _ _, fun z hz => by simp at hz⟩
  · simp at hcs
    subst hcs
    obtain ⟨zs, g1, g2, g3, g4, g5, _⟩ := open_rdI (enc := enc) (base := base) (held := held) (d := y.1) (p := y.2) ht he hc ⟨n, by simpa [Value.cells] using h⟩
    refine ⟨zs, ?_, fun z hz => wf_i8_bd (g5 z hz)⟩
    rw [g1]
    unfold maxLen at g3
    exact rd8_rep (by omega) (by omega) g4
theorem open_cellU {H : Type} {enc : TypeId × Value → H} {P : Program} {W : World} {base : Nat} {held : Bool} {t : TypeId} {n : Nat} {v : Value} {y : DataW H × List MemPlace}
    (ht : P.underlying t = some (.int .u8)) (h : DataW.trod enc P W base (fun _ => true) held n t [v] = some y) : ∃ m : Nat, v = .int .u8 (m : Int) ∧ m ≤ 255 := by
  obtain ⟨m, hv, _, hw⟩ := DataW.trod_int ht h
  have := wf_u8_bd hw
  refine ⟨m.toNat, ?_, by omega⟩
  simp at hv
  rw [hv]
  congr 1
  omega
theorem rel_L {w : World} {d k : Nat} {L B : List Int} {v2 v3 : Value} (h2 : Rep (fun _ => False) w (.sl (ls f8 L)) v2) (h3 : Rep (fun _ => False) w (.sl (ls f8 B)) v3) :
    (tL d k L B).rel (fun _ _ => none) (fun _ => []) (fun _ => False) w (.agg #[.int .u8 (d : Int), .int .u8 (k : Int), v2, v3]) := by
  refine ⟨#[.int .u8 (d : Int), .int .u8 (k : Int), v2, v3], rfl, rfl, fun j x hx => ?_⟩
  match j, hx with
  | 0, hx => simp at hx; subst hx; exact ⟨_, rfl, rfl, Rep.raw _ rfl⟩
  | 1, hx => simp at hx; subst hx; exact ⟨_, rfl, rfl, Rep.raw _ rfl⟩
  | 2, hx => simp at hx; subst hx; exact ⟨_, rfl, h2.one, h2⟩
  | 3, hx => simp at hx; subst hx; exact ⟨_, rfl, h3.one, h3⟩
  | j + 4, hx => simp at hx
theorem argsT {w : World} : ∀ {ts : List TV} {vs : List Value}, ts.length = vs.length → (∀ (j : Nat) t v, ts[j]? = some t → vs[j]? = some v → t.rel (fun _ _ => none) (fun _ => []) (fun _ => False) w v) →
    ∀ (j : Nat) t, ts[j]? = some t → ∃ v : Value, vs.toArray[j]? = some v ∧ t.rel (fun _ _ => none) (fun _ => []) (fun _ => False) w v := fun {ts vs} hl h j t hj => by
  have hlt := (List.getElem?_eq_some_iff.1 hj).1
  obtain ⟨v, hv⟩ : ∃ v, vs[j]? = some v := ⟨_, List.getElem?_eq_getElem (by omega)⟩
  exact ⟨v, by simpa using hv, h j t v hj hv⟩
end Go.Proofs.YtennjcjjegbhgaaGreat
