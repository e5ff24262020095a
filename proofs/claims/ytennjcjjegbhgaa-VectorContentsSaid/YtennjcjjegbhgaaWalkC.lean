/-
  The walk of lll.IsReduced.
-/
import Derived.Test.YtennjcjjegbhgaaWalkB
import Derived.Test.YtennjcjjegbhgaaMx
namespace Go.Proofs.Ytennjcjjegbhgaa
open Go.RowKit

theorem Try.infoI64 : (Try.prog.info? 2).map (fun i => (i.zero, i.size, i.bytes)) = some (some (.int .i64 0), 1, 8) := by kernel_rfl
theorem Try.infoSlI64 : (Try.prog.info? 22).map (fun i => (i.zero, i.size, i.bytes)) = some (some (.slice none 0 0), 1, 24) := by kernel_rfl

/-- An entry of the next stage, with int64's wraparound. -/
def nxE (stg : List (List Int)) (last : Int) (i j : Nat) : Int :=
  wrap64 (Int.tdiv (wrap64 (wrap64 (ent stg 0 0 * ent stg (i + 1) (j + 1)) - wrap64 (ent stg (i + 1) 0 * ent stg 0 (j + 1)))) last)
def nxM (stg : List (List Int)) (last : Int) : List (List Int) := mkRows (stg.length - 1) (stg.length - 1) (nxE stg last)
def LovP (stg : List (List Int)) (last : Int) : Prop :=
  wrap64 (4 * wrap64 (wrap64 (last * nxE stg last 0 0) + wrap64 (ent stg 1 0 * ent stg 1 0))) < wrap64 (3 * ent stg 0 0 * ent stg 0 0)
instance (stg : List (List Int)) (last : Int) : Decidable (LovP stg last) := inferInstanceAs (Decidable (_ < _))
/-- What the loop of IsReduced answers. -/
def redM : Nat → List (List Int) → Int → Bool
  | 0, _, _ => false
  | f + 1, stg, last =>
    if stg.length ≤ 1 then decide (0 < ent stg 0 0) && decide (ent stg 0 0 ≤ 10000)
    else if ShortP stg then (if LovP stg last then false else redM f (nxM stg last) (ent stg 0 0)) else false
def isReducedM (rows : List (List Int)) : Bool := decide (SmallP rows) && redM rows.length rows 1

/-- The length of a slice, for a loop's measure. -/
def slLen : Value → Nat | .slice _ n _ => n | _ => 0
def Sq (rows : List (List Int)) : Prop := ∀ i, i < rows.length → (rows.getD i []).length = rows.length
theorem Sq.at_ {rows : List (List Int)} (h : Sq rows) {i : Nat} {r : List Int} (hi : rows[i]? = some r) : r.length = rows.length := by
  have hlt : i < rows.length := by
    rcases Nat.lt_or_ge i rows.length with hl | hg
    · exact hl
    · rw [List.getElem?_eq_none hg] at hi; cases hi
  have := h i hlt
  rw [List.getD_eq_getElem?_getD, hi] at this; exact this
theorem Sq.nx (stg : List (List Int)) (last : Int) : Sq (nxM stg last) := by
  intro i hi
  unfold nxM at *
  rw [mkRows_length] at *
  simp [mkRows, List.getD_eq_getElem?_getD, hi]

/-- Entry (i, j) of a square matrix in memory. -/
theorem RdM.ent_ {w : World} {A : Option Addr} {rows : List (List Int)} (h : RdM .i64 w A rows) (hs : Sq rows) {i j : Nat} (hi : i < rows.length) (hj : j < rows.length) :
    ∃ b off b2 off2 c, A = some ⟨b, off, none⟩ ∧ w.cell? ⟨b, off + i, none⟩ = some (.slice (some ⟨b2, off2, none⟩) rows.length c) ∧ rows.length ≤ c ∧ w.cell? ⟨b2, off2 + j, none⟩ = some (.int .i64 (ent rows i j)) := by
  obtain ⟨r, ha⟩ := getElem?_of_lt hi
  obtain ⟨b, off, B, cr, rfl, hc, hcr, hlr, hr⟩ := h.at_ ha
  have hl := hs.at_ ha
  obtain ⟨a, ha2⟩ := getElem?_of_lt (l := r) (k := j) (by omega)
  obtain ⟨b2, off2, rfl, hc2⟩ := hr.at_ ha2
  exact ⟨b, off, b2, off2, cr, rfl, by rw [← hl]; exact hc, by omega, by rw [ent_of ha ha2]; exact hc2⟩

theorem RdM.row_ {w : World} {A : Option Addr} {rows : List (List Int)} (h : RdM .i64 w A rows) (hs : Sq rows) {i : Nat} (hi : i < rows.length) :
    ∃ b off b2 off2 c, A = some ⟨b, off, none⟩ ∧ w.cell? ⟨b, off + i, none⟩ = some (.slice (some ⟨b2, off2, none⟩) rows.length c) ∧ rows.length ≤ c ∧ ∀ j, j < rows.length → w.cell? ⟨b2, off2 + j, none⟩ = some (.int .i64 (ent rows i j)) := by
  obtain ⟨r, ha⟩ := getElem?_of_lt hi
  obtain ⟨b, off, B, cr, rfl, hc, hcr, hlr, hr⟩ := h.at_ ha
  have hl := hs.at_ ha
  obtain ⟨b2, off2, rfl, hc2⟩ := hr (by
    intro e
    have := congrArg List.length e
    simp at this
    subst this
    simp at hl; omega)
  refine ⟨b, off, b2, off2, cr, rfl, by rw [← hl]; exact hc, by omega, fun j hj => ?_⟩
  obtain ⟨a, ha2⟩ := getElem?_of_lt (l := r) (k := j) (by omega)
  rw [ent_of ha ha2]
  exact hc2 j _ (by simp [ha2])

set_option maxHeartbeats 2000000 in
set_option maxRecDepth 100000 in
theorem isReduced_any (A : Option Addr) (c : Nat) (rows : List (List Int)) (w : World) (hx : RdM .i64 w A rows) (lx : rows.length ≤ 9223372036854775807) (hcap : rows.length ≤ c) :
    Calls Try.prog 25 #[.slice A rows.length c] w fun e w' => e = .returned (.bool (isReducedM rows)) ∧ Ext w w' := by
  have HX := Lib.hid hx
  clear hx
  by_cases hS : SmallP rows
  · have hSd : decide (SmallP rows) = true := by simp [hS]
    have HS := Lib.hid hS
    have hn1 : 1 ≤ rows.length := hS.1
    have hn8 : rows.length ≤ 8 := hS.2.1
    have HF : Hid (isReducedM rows = redM rows.length rows 1) := Lib.hid (by simp [isReducedM, hS])
    clear hS
    go_enter Try.func25, Try.ntmps25
    go_wp2_with (go_at_call 33; refine (isSmall_any A c rows _ HX.out lx).mono ?_; rintro e w' ⟨rfl, rfl⟩)
    clear hSd
    go_loopw [3, 4, 5, 6, 7, 8, 9, 10] (fun s l _ _ _ _ _ _ wr => ∃ (B : Option Addr) (cap : Nat) (stg : List (List Int)) (last : Int), s = .slice B stg.length cap ∧ l = .int .i64 last ∧ 1 ≤ stg.length ∧ stg.length ≤ 8 ∧ stg.length ≤ cap ∧ 1 ≤ last ∧ last < 65536 ∧ Hid (Sq stg) ∧ Hid (RdM .i64 wr B stg) ∧ Hid (Ext w wr) ∧ Hid (redM stg.length stg last = redM rows.length rows 1))
      (fun s _ _ _ _ _ _ _ _ => slLen s)
    case atStart => exact ⟨A, c, rows, 1, rfl, rfl, hn1, hn8, hcap, by omega, by omega, Lib.hid HS.out.2.2.1, HX, Lib.hid (Ext.refl _), Lib.hid rfl⟩
    case round =>
      clear HX HS hn1 hn8 hcap
      obtain ⟨B, cap, stg, last, rfl, rfl, h1, h8, hcap, hl0, hl1, HSq, HR, HE, HQ⟩ := hrel
      by_cases hlen : 1 < stg.length
      · obtain ⟨b, off, b2, off2, c2, rfl, hc1, hcap2, hc2⟩ := HR.out.ent_ HSq.out (i := 0) (j := 0) (by omega) (by omega)
        rw [Nat.add_zero] at hc1 hc2
        by_cases hP : ShortP stg
        · have hPd : decide (ShortP stg) = true := by simp [hP]
          have hd0 : 0 < ent stg 0 0 := hP.1
          have hd1 : ent stg 0 0 < 65536 := hP.2.1
          have HP := Lib.hid hP
          clear hP
          obtain ⟨m, hm⟩ : ∃ m, stg.length = m + 1 := ⟨stg.length - 1, by omega⟩
          have hm1 : 1 ≤ m := by omega
          have hm8 : m ≤ 7 := by omega
          have hmk0 := run_make_row' (P := Try.prog) 35 22 (.slice none 0 0) 24 Try.underlying35 Try.infoSlI64 rfl .i64 .i64 m (by omega) (by omega)
          have hmk1 := run_make_row' (P := Try.prog) 22 2 (.int .i64 0) 8 Try.underlying22 Try.infoI64 rfl .i64 .i64 m (by omega) (by omega)
          have hsub : ((stg.length : Int) - 1) = (m : Int) := by omega
          have hmkA : ∀ w : World, (Instr.makeSlice 35 (.int .i64 ((stg.length : Int) - 1)) (.int .i64 ((stg.length : Int) - 1))).run Try.prog w = .ok (.slice (some ⟨w.heap.size, 0, none⟩) m m) (w.alloc (.cells (madeCells #[.slice none 0 0] m) 22)) := by rw [hsub]; exact hmk0
          clear hmk0 hsub
          have HM := Lib.hid hm
          have hmle : m < stg.length := by omega
          have hmge : stg.length ≤ m + 1 := by omega
          clear hm
          go_wp2_with (go_at_call 34; refine (isShortened_any _ cap stg _ HR.out (by omega) hcap (by omega) (fun i hi => by rw [HSq.out i hi]; omega)).mono ?_; rintro e w' ⟨rfl, rfl⟩)
          clear hmkA hPd
          obtain ⟨wo, rfl⟩ : ∃ wo : World, wo = wr := ⟨_, rfl⟩
          go_loopw [32, 7, 8, 9] (fun i _ _ _ wx => ∃ (r : Nat) (g : Nat → Nat), r ≤ m ∧ i = .int .i64 r ∧ Hid (MxO wo wx 22 2 m m r g (fun i j => .int .i64 (nxE stg last i j)))) (fun i _ _ _ _ => m - (intOf i).toNat)
          case atStart => exact ⟨0, fun _ => 0, Nat.zero_le _, rfl, Lib.hid (mxO_start wo _ _ m m _ _)⟩
          case round =>
            obtain ⟨r, g, hr, rfl, HO⟩ := hrel
            by_cases hrm : r < m
            · have hbw : b < wo.heap.size := cell_lt (p := ⟨b, off, none⟩) hc1
              obtain ⟨b', off', b3, off3, c3, hbb, hc3, hcap3, hrow⟩ := HR.out.row_ HSq.out (i := r + 1) (by omega)
              cases hbb
              have g0 : wr.cell? ⟨b, off + (r + 1), none⟩ = some (.slice (some ⟨b3, off3, none⟩) stg.length c3) := HO.out.ext.cell hc3
              have hst1 : ∀ o, (wr.alloc o).cell? ⟨wo.heap.size, r, none⟩ = some (.slice none 0 0) := fun o => by
                have := (HO.out.top.alloc o).cell hrm
                rw [this]; simp
              have hst2 : ∀ o, (wr.alloc o).frozen? ⟨wo.heap.size, r, none⟩ = false := fun o => (HO.out.top.alloc o).frozen r
              have HRow := Lib.hid hrow
              clear hrow
              go_wp2_with fail
              have HI0 := Lib.hid (mxI_start (.int .i64 0) HO.out)
              clear hst1 hst2 g0 hmk1
              obtain ⟨g', HI, hg'⟩ : ∃ g' : Nat → Nat, Hid (MxI wo ((wr.alloc (.cells (madeCells #[.int .i64 0] m) 2)).setCell ⟨wo.heap.size, r, none⟩ (.slice (some ⟨wr.heap.size, 0, none⟩) m m)) 22 2 m m r 0 g' (fun i j => .int .i64 (nxE stg last i j)) (.int .i64 0)) ∧ Hid (g' r = wr.heap.size) := ⟨_, HI0, Lib.hid (by simp)⟩
              clear HI0
              go_loopw [48, 9] (fun i _ wx => ∃ (l : Nat), l ≤ m ∧ i = .int .i64 l ∧ Hid (MxI wo wx 22 2 m m r l g' (fun i j => .int .i64 (nxE stg last i j)) (.int .i64 0))) (fun i _ _ => m - (intOf i).toNat)
              case atStart => exact ⟨0, Nat.zero_le _, rfl, HI⟩
              case round =>
                clear HI
                obtain ⟨l, hl, rfl, HI⟩ := hrel
                by_cases hlm : l < m
                · have t1 : wr.cell? ⟨wo.heap.size, r, none⟩ = some (.slice (some ⟨g' r, 0, none⟩) m m) := by rw [HI.out.top.cell hrm, if_pos (by omega)]
                  have t2 : wr.cell? ⟨b3, off3 + (l + 1), none⟩ = some (.int .i64 (ent stg (r + 1) (l + 1))) := HI.out.ext.cell (HRow.out (l + 1) (by omega))
                  have t3 : wr.cell? ⟨b3, off3, none⟩ = some (.int .i64 (ent stg (r + 1) 0)) := HI.out.ext.cell (HRow.out 0 (by omega))
                  have t4 : wr.cell? ⟨b, off, none⟩ = some (.slice (some ⟨b2, off2, none⟩) stg.length c2) := HI.out.ext.cell hc1
                  have t5 : wr.cell? ⟨b2, off2 + (l + 1), none⟩ = some (.int .i64 (ent stg 0 (l + 1))) := by
                    obtain ⟨b', off', b4, off4, c4, hbb, hc4, _, hrow4⟩ := HR.out.row_ HSq.out (i := 0) (by omega)
                    cases hbb
                    rw [Nat.add_zero, hc1] at hc4
                    injection hc4 with hc4
                    injection hc4 with hc4 _ _
                    injection hc4 with hc4
                    injection hc4 with e1 e2 _
                    subst e1 e2
                    exact HI.out.ext.cell (hrow4 (l + 1) (by omega))
                  have t6 : wr.cell? ⟨g' r, l, none⟩ = some (.int .i64 0) := by rw [HI.out.cur.cell hlm, if_neg (by omega)]
                  have t7 : wr.frozen? ⟨g' r, l, none⟩ = false := HI.out.cur.frozen l
                  have hl2 : (l : Int) + 1 < (stg.length : Int) := by omega
                  have hl3 : l + 1 < stg.length := by omega
                  have hlast : (last == 0) = false := by simp; omega
                  go_wp2_with fail
                  go_big_region
                  go_wp2_with fail
                  go_roundw
                  case rel => exact ⟨l + 1, by omega, by go_num, Lib.hid ((mxI_step HI.out rfl).drew)⟩
                  case measure => simp [intOf]; omega
                · go_wp2_with fail
                  go_roundw
                  case rel => exact ⟨r + 1, g', by omega, by go_num, Lib.hid (mxI_done HI.out (by omega))⟩
                  case measure => simp [intOf]; omega
            · have hrm' : m ≤ r := by omega
              have u0 : wr.cell? ⟨wo.heap.size, 0, none⟩ = some (.slice (some ⟨g 0, 0, none⟩) m m) := by rw [HO.out.top.cell (by omega), if_pos (by omega)]
              have u1 : wr.cell? ⟨g 0, 0, none⟩ = some (.int .i64 (nxE stg last 0 0)) := by rw [(HO.out.done 0 (by omega)).cell (by omega)]
              obtain ⟨b', off', b3, off3, c3, hbb, hc3, hcap3, hrow⟩ := HR.out.row_ HSq.out (i := 1) (by omega)
              cases hbb
              have u2' : wr.cell? ⟨b, off + 1, none⟩ = some (.slice (some ⟨b3, off3, none⟩) stg.length c3) := HO.out.ext.cell hc3
              have u3 : wr.cell? ⟨b3, off3, none⟩ = some (.int .i64 (ent stg 1 0)) := HO.out.ext.cell (by have := hrow 0 (by omega); rw [Nat.add_zero] at this; exact this)
              clear hrow hmk1
              by_cases hL : LovP stg last
              · have hL' := hL
                unfold LovP at hL'
                go_wp2_with fail
                go_ret
                exact ⟨ret_bool (by
                  rw [HF.out, ← HQ.out]
                  obtain ⟨f, hf⟩ : ∃ f, stg.length = f + 1 := ⟨stg.length - 1, by omega⟩
                  rw [hf, redM, if_neg (by omega), if_pos HP.out, if_pos hL]), HE.out.trans HO.out.ext⟩
              · have hL' := hL
                unfold LovP at hL'
                go_wp2_with fail
                go_roundw
                case rel =>
                  have hlen2 : (nxM stg last).length = m := by unfold nxM; rw [mkRows_length, HM.out]; rfl
                  refine ⟨some ⟨wo.heap.size, 0, none⟩, m, nxM stg last, ent stg 0 0, by rw [hlen2], rfl, by omega, by omega, by omega, by omega, by omega, Lib.hid (Sq.nx _ _), Lib.hid ?_, Lib.hid (HE.out.trans HO.out.ext), Lib.hid ?_⟩
                  · have := HO.out.rd hrm' (by omega)
                    unfold nxM
                    rw [HM.out]
                    exact this
                  · rw [← HQ.out, hlen2]
                    conv => rhs; rw [HM.out, redM, if_neg (by omega), if_pos HP.out, if_neg hL]
                case measure => simp [slLen]; omega
        · have hPd : decide (ShortP stg) = false := by simp [hP]
          have HF2 : Hid (redM stg.length stg last = false) := Lib.hid (by
            obtain ⟨f, hf⟩ : ∃ f, stg.length = f + 1 := ⟨stg.length - 1, by omega⟩
            rw [hf, redM, if_neg (by omega), if_neg hP])
          go_wp2_with (go_at_call 34; refine (isShortened_any _ cap stg _ HR.out (by omega) hcap (by omega) (fun i hi => by rw [HSq.out i hi]; omega)).mono ?_; rintro e w' ⟨rfl, rfl⟩)
          go_ret
          exact ⟨ret_bool (by rw [HF.out, ← HQ.out, HF2.out]), HE.out⟩
      · have hst : stg.length = 1 := by omega
        obtain ⟨b, off, b2, off2, c2, rfl, hc1, hcap2, hc2⟩ := HR.out.ent_ HSq.out (i := 0) (j := 0) (by omega) (by omega)
        rw [Nat.add_zero] at hc1 hc2
        have HF2 : Hid (redM stg.length stg last = (decide (0 < ent stg 0 0) && decide (ent stg 0 0 ≤ 10000))) := Lib.hid (by rw [hst, redM, if_pos (by omega)])
        clear hst
        by_cases h0 : 0 < ent stg 0 0
        · go_wp2_with fail
          go_ret
          exact ⟨ret_bool (by rw [HF.out, ← HQ.out, HF2.out]; simp [h0]), HE.out⟩
        · have h0' : decide (0 < ent stg 0 0) = false := by simpa using h0
          go_wp2_with fail
          go_ret
          exact ⟨ret_bool (by rw [HF.out, ← HQ.out, HF2.out, decide_eq_false (by omega)]; rfl), HE.out⟩
  · have hSd : decide (SmallP rows) = false := by simp [hS]
    go_enter Try.func25, Try.ntmps25
    go_wp2_with (go_at_call 33; refine (isSmall_any A c rows _ HX.out lx).mono ?_; rintro e w' ⟨rfl, rfl⟩)
    go_ret
    exact ⟨ret_bool (by simp [isReducedM, hS]), Ext.refl _⟩

end Go.Proofs.Ytennjcjjegbhgaa
