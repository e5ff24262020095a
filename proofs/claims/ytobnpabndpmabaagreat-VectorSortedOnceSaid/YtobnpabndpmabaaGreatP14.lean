/-
  Part 15 of a proof (walks and plain facts).
-/
import Derived.Test.YtobnpabndpmabaaGreatP13
set_option linter.all false
namespace Go.Proofs.YtobnpabndpmabaaGreat
open Go.RowKit
def Lst (w : World) (g N : Nat) (L : List NItem) : Prop :=
  ∃ f, w.rowIs g 67 N f ∧ L.length * 2 ≤ N ∧ ∀ j it, L[j]? = some it → f (j * 2) = .int .i64 it.key ∧ f (j * 2 + 1) = it.val
theorem Lst.ext {w w' : World} {g N : Nat} {L : List NItem} (h : Lst w g N L) (e : Ext w w') : Lst w' g N L := by
  obtain ⟨f, h1, h2, h3⟩ := h
  exact ⟨f, rowIs_ext h1 e, h2, h3⟩
theorem Lst.cell0 {w : World} {g N : Nat} {L : List NItem} (h : Lst w g N L) {j : Nat} {it : NItem} (hj : L[j]? = some it) : w.cell? ⟨g, j * 2, none⟩ = some (.int .i64 it.key) := by
  obtain ⟨f, h1, h2, h3⟩ := h
  have := (List.getElem?_eq_some_iff.1 hj).1
  rw [h1.cell (by omega), (h3 j it hj).1]
theorem Lst.cell1 {w : World} {g N : Nat} {L : List NItem} (h : Lst w g N L) {j : Nat} {it : NItem} (hj : L[j]? = some it) : w.cell? ⟨g, j * 2 + 1, none⟩ = some (.slice it.at_ it.vals.length it.cap) := by
  obtain ⟨f, h1, h2, h3⟩ := h
  have := (List.getElem?_eq_some_iff.1 hj).1
  rw [h1.cell (by omega), (h3 j it hj).2]; rfl
theorem Lst.frozen {w : World} {g N : Nat} {L : List NItem} (h : Lst w g N L) (j : Nat) : w.frozen? ⟨g, j, none⟩ = false := by
  obtain ⟨f, h1, h2, h3⟩ := h
  exact h1.frozen j
theorem Lst.set {w : World} {g N : Nat} {L : List NItem} (h : Lst w g N L) {i : Nat} (hi : i < L.length) (it : NItem) :
    Lst ((w.setCell ⟨g, i * 2, none⟩ (.int .i64 it.key)).setCell ⟨g, i * 2 + 1, none⟩ (.slice it.at_ it.vals.length it.cap)) g N (L.set i it) := by
  obtain ⟨f, h1, h2, h3⟩ := h
  refine ⟨_, (h1.set (i * 2) _).set (i * 2 + 1) _, by simpa using h2, fun j it' hj => ?_⟩
  rw [List.getElem?_set] at hj
  by_cases e : i = j
  · subst e
    rw [if_pos rfl, if_pos hi] at hj
    cases hj
    constructor
    · rw [if_neg (by omega), if_pos rfl]
    · rw [if_pos rfl]; rfl
  · rw [if_neg e] at hj
    obtain ⟨q1, q2⟩ := h3 j it' hj
    constructor
    · rw [if_neg (by omega), if_neg (by omega), q1]
    · rw [if_neg (by omega), if_neg (by omega), q2]
theorem Lst.take {w : World} {g N : Nat} {L : List NItem} (h : Lst w g N L) (i : Nat) : Lst w g N (L.take i) := by
  obtain ⟨f, h1, h2, h3⟩ := h
  refine ⟨f, h1, by rw [List.length_take]; omega, fun j it hj => ?_⟩
  rw [List.getElem?_take] at hj
  split at hj
  · exact h3 j it hj
  · cases hj
theorem setCells_row {g t N : Nat} : ∀ (vs : List Value) (o : Nat) (w : World) (f : Nat → Value), w.rowIs g t N f → ∃ f', (w.setCells g o vs).rowIs g t N f' ∧ (∀ j, j < o → f' j = f j) ∧ ∀ k, k ≠ g → (w.setCells g o vs).heap[k]? = w.heap[k]?
  | [], o, w, f, h => ⟨f, h, fun _ _ => rfl, fun _ _ => rfl⟩
  | v :: r, o, w, f, h => by
    obtain ⟨f', h1, h2, h3⟩ := setCells_row r (o + 1) (w.setCell ⟨g, o, none⟩ v) _ (h.set o v)
    refine ⟨f', h1, fun j hj => ?_, fun k hk => ?_⟩
    · rw [h2 j (by omega), if_neg (by omega)]
    · show ((w.setCell ⟨g, o, none⟩ v).setCells g (o + 1) r).heap[k]? = _
      rw [h3 k hk, Below.heap_setCell _ _ _ _ hk]
def compGo (prev : NItem) : List NItem → List NItem
  | [] => []
  | b :: l => if eqIt b prev then compGo b l else b :: compGo b l
def compact : List NItem → List NItem
  | [] => []
  | a :: l => a :: compGo a l
theorem run_clear_agg {P : Program} (w : World) (t e ty : TypeId) (z : Value) (ht : P.underlying t = some (.slice e)) (hv : ∀ w, (zeroValue e).run P w = .ok z w) (h1 : ∀ v ∈ z.cells, v.oneCell' = true) (hz : 0 < z.cells.size) (b o n c : Nat) (hn : 0 < n)
    (hc : ∀ j, j < n * z.cells.size → (w.cell? ⟨b, o + j, none⟩).isSome = true) (hf : ∀ j, j < n * z.cells.size → w.frozen? ⟨b, o + j, none⟩ = false) :
    (Builtin.clear_ #[t] ty #[.slice (some ⟨b, o, none⟩) n c]).run P w = .ok (.tuple #[]) (w.setCells b o (Builtin.zeroCells z.cells n).toList) := by
  have hlen : (Builtin.zeroCells z.cells n).toList.length = n * z.cells.size := by simp [Builtin.zeroCells]
  have hst := run_storeCells_cells (P := P) b o (Builtin.zeroCells z.cells n).toList 0 w (by rw [hlen]; simpa using hc) (by rw [hlen]; simpa using hf) (by
    intro v hv'
    simp [Builtin.zeroCells] at hv'
    obtain ⟨k, _, rfl⟩ := hv'
    have hlt : k % z.cells.size < z.cells.size := Nat.mod_lt _ hz
    rw [getElem!_pos z.cells _ hlt]
    exact h1 _ (Array.getElem_mem hlt))
  simp only [Nat.add_zero] at hst
  obtain ⟨m, rfl⟩ : ∃ m, n = m + 1 := ⟨n - 1, by omega⟩
  simp [Builtin.clear_, run_underlying ht, hv, hst]
theorem gb_of_ext {w w' : World} (h : Ext w w') (g : Nat) : w.grownBy w' (some g) := ⟨h.os, h.tape, h.output, h.size, fun k hk _ => h.block k hk⟩
theorem gb_trans {a b c : World} {g : Nat} (h : a.grownBy b (some g)) (k : b.grownBy c (some g)) : a.grownBy c (some g) :=
  ⟨k.os.trans h.os, k.tape.trans h.tape, k.output.trans h.output, Nat.le_trans h.size k.size, fun i hi hne => (k.block i (Nat.lt_of_lt_of_le hi h.size) hne).trans (h.block i hi hne)⟩
theorem gb_set {a b : World} {g : Nat} (h : a.grownBy b (some g)) (o : Nat) (v : Value) : a.grownBy (b.setCell ⟨g, o, none⟩ v) (some g) :=
  gb_trans h ⟨rfl, rfl, rfl, by simp [World.setCell], fun k _ hne => Below.heap_setCell _ _ _ _ (fun e => hne (by rw [e]))⟩
theorem gb_setCells {a b : World} {g : Nat} : ∀ (vs : List Value) (o : Nat) {b : World}, a.grownBy b (some g) → a.grownBy (b.setCells g o vs) (some g)
  | [], _, _, h => h
  | v :: r, o, _, h => gb_setCells (b := b) r (o + 1) (gb_set h o v)
theorem gb_cell {w w' : World} {g : Nat} (h : w.grownBy w' (some g)) {p : Addr} {v : Value} (hp : w.cell? p = some v) (hne : p.block ≠ g) : w'.cell? p = some v :=
  h.cell hp (fun e => hne (by injection e))
theorem RdI.gb {k : IntKind} {w w' : World} {A : Option Addr} {zs : List Int} {g : Nat} (h : RdI k w A zs) (hne : ∀ p, A = some p → p.block ≠ g) (hg : w.grownBy w' (some g)) : RdI k w' A zs := fun hn => by
  obtain ⟨b, off, rfl, hc⟩ := h hn
  exact ⟨b, off, rfl, fun i x hx => gb_cell hg (hc i x hx) (show b ≠ g from hne ⟨b, off, none⟩ rfl)⟩
theorem ItemOk.gb {w w' : World} {g : Nat} {it : NItem} (h : ItemOk w g it) (hg : w.grownBy w' (some g)) : ItemOk w' g it := ⟨h.rd.gb h.ne hg, h.ne, h.le⟩
theorem compGo_take {L : List NItem} {k : Nat} {a : NItem} (hQ : ∀ j a b, j + 1 < k + 1 → L[j + 1]? = some a → L[j]? = some b → eqIt a b = false) (hk : L[k]? = some a) : compact L = L.take (k + 1) ++ compGo a (L.drop (k + 1)) := by
  induction k generalizing a with
  | zero =>
    cases L with
    | nil => simp at hk
    | cons b l => simp at hk; subst hk; simp [compact]
  | succ k ih =>
    have hlt : k < L.length := by have := (List.getElem?_eq_some_iff.1 hk).1; omega
    obtain ⟨b, hb⟩ := getElem?_of_lt hlt
    have hlt2 := (List.getElem?_eq_some_iff.1 hk).1
    have e := hQ k a b (by omega) hk hb
    rw [ih (fun j a b h => hQ j a b (by omega)) hb]
    rw [List.drop_eq_getElem_cons hlt2]
    have e2 : L[k + 1] = a := (List.getElem?_eq_some_iff.1 hk).2
    rw [e2, compGo, e]
    have e3 : L.take (k + 1 + 1) = L.take (k + 1) ++ [a] := by rw [List.take_succ_eq_append_getElem hlt2, e2]
    rw [e3]
    simp
theorem compact_all {L : List NItem} (hQ : ∀ j a b, j + 1 < L.length → L[j + 1]? = some a → L[j]? = some b → eqIt a b = false) : compact L = L := by
  cases hL : L with
  | nil => rfl
  | cons a l =>
    have hlen : 0 < L.length := by rw [hL]; simp
    obtain ⟨b, hb⟩ := getElem?_of_lt (l := L) (k := L.length - 1) (by omega)
    have := compGo_take (k := L.length - 1) (fun j a b h => hQ j a b (by omega)) hb
    rw [show L.length - 1 + 1 = L.length from by omega, List.take_length, List.drop_length] at this
    rw [hL] at this
    rw [this]; simp [compGo]
theorem compGo_eq {L : List NItem} {m : Nat} {a b : NItem} (ha : L[m + 1]? = some a) (e : eqIt a b = true) : compGo b (L.drop (m + 1)) = compGo a (L.drop (m + 1 + 1)) := by
  have hlt := (List.getElem?_eq_some_iff.1 ha).1
  rw [List.drop_eq_getElem_cons hlt, (List.getElem?_eq_some_iff.1 ha).2, compGo, if_pos e]
theorem compGo_ne {L : List NItem} {m : Nat} {a b : NItem} (ha : L[m + 1]? = some a) (e : eqIt a b = false) : compGo b (L.drop (m + 1)) = a :: compGo a (L.drop (m + 1 + 1)) := by
  have hlt := (List.getElem?_eq_some_iff.1 ha).1
  rw [List.drop_eq_getElem_cons hlt, (List.getElem?_eq_some_iff.1 ha).2, compGo, if_neg (by simp [e])]
theorem mem_at {L pre : List NItem} {m : Nat} (h : pre.length ≤ m) : (pre ++ L.drop pre.length)[m]? = L[m]? := by
  rw [List.getElem?_append_right h, List.getElem?_drop, Nat.add_sub_cancel' h]
theorem mem_set {L pre : List NItem} {a : NItem} (h : pre.length < L.length) : (pre ++ L.drop pre.length).set pre.length a = (pre ++ [a]) ++ L.drop (pre ++ [a]).length := by
  have e : L.drop pre.length = L[pre.length] :: L.drop (pre.length + 1) := List.drop_eq_getElem_cons h
  rw [List.set_append_right _ _ (Nat.le_refl _), Nat.sub_self, e, List.set_cons_zero]
  simp
set_option maxRecDepth 100000 in
set_option maxHeartbeats 2000000 in
theorem compactFunc_any (g cap : Nat) (L : List NItem) (bx sx so : Nat) (w : World) (hL : Lst w g (cap * 2) L) (hcap : L.length ≤ cap) (hlen : L.length ≤ 4611686018427387904)
    (hok : ∀ it ∈ L, ItemOk w g it) (h1 : w.cell? ⟨bx, 0, none⟩ = some (.pointer (some ⟨sx, so, none⟩))) (h2 : w.cell? ⟨sx, so + 1, none⟩ = some (.func (Fn.func 32) #[] #[])) (hbx : bx ≠ g) (hsx : sx ≠ g) :
    Calls Tryz.prog 75 #[.slice (some ⟨g, 0, none⟩) L.length cap, .func (Fn.func 76) #[] #[.pointer (some ⟨bx, 0, none⟩)]] w fun e w' =>
      e = .returned (.slice (some ⟨g, 0, none⟩) (compact L).length cap) ∧ Lst w' g (cap * 2) (compact L) ∧ w.grownBy w' (some g) := by
  have HL := Lib.hid hL
  have HOK := Lib.hid hok
  have HB1 := Lib.hid h1
  have HB2 := Lib.hid h2
  have HN1 := Lib.hid hbx
  have HN2 := Lib.hid hsx
  clear hL hok h1 h2 hbx hsx
  have hz59 : ∀ w, (zeroValue 67).run Tryz.prog w = .ok (.agg #[.int .i64 0, .slice none 0 0]) w := fun w => by kernel_rfl
  have HZ := Lib.hid hz59
  clear hz59
  by_cases hsz : L.length < 2
  · have HC : Hid (compact L = L) := Lib.hid (compact_all (fun j a b h => by omega))
    go_enter Tryz.func75, Tryz.ntmps75
    go_wp2_with fail
    go_ret
    rw [HC.out]
    exact ⟨rfl, HL.out, World.grownBy.refl _ _⟩
  · have hszb : decide ((L.length : Int) < 2) = false := by simp; omega
    go_enter Tryz.func75, Tryz.ntmps75
    go_wp2_with fail
    clear hszb
    go_loopw [5, 6, 7] (fun i _ _ wr => ∃ k : Nat, 1 ≤ k ∧ k ≤ L.length ∧ i = .int .i64 k ∧ Hid (Ext w wr) ∧ Hid (∀ j a b, j + 1 < k → L[j + 1]? = some a → L[j]? = some b → eqIt a b = false)) (fun i _ _ _ => L.length - (intOf i).toNat)
    case atStart => exact ⟨1, by omega, by omega, rfl, Lib.hid (Ext.refl _), Lib.hid (fun j a b h => by omega)⟩
    case round =>
      obtain ⟨k, hk1, hk, rfl, HE, HQ⟩ := hrel
      by_cases hlt : k < L.length
      · obtain ⟨a, ha⟩ := getElem?_of_lt hlt
        obtain ⟨b, hb⟩ := getElem?_of_lt (l := L) (k := k - 1) (by omega)
        have HA := Lib.hid ha
        have HB := Lib.hid hb
        clear ha hb
        have HL1 := Lib.hid (HL.out.ext (HE.out.drew))
        have t1 := HL1.out.cell0 HA.out
        have t2 := HL1.out.cell1 HA.out
        have t3 := HL1.out.cell0 HB.out
        have t4 := HL1.out.cell1 HB.out
        have HE1 := Lib.hid HE.out.drew
        clear HE
        have a1 : IntKind.i64.wrap ((k : Int) - 1) = (k : Int) - 1 := IntWalk.i64_in _ (by omega)
        have a2 : 0 ≤ (k : Int) - 1 := by omega
        have a3 : ((k : Int) - 1).toNat = k - 1 := by omega
        have a4 : (k : Int) - 1 < (L.length : Int) := by omega
        have a5 : (1 : Int) ≤ (k : Int) := by omega
        go_wp2_with fail
        refine region_still_tail 10 (by kernel_rfl) (by kernel_rfl) ?_
        simp only [List.take_succ_cons, List.take_zero, List.drop_succ_cons, List.drop_zero]
        generalize wr.drew = w3 at *
        iterate 10 still_step
        refine wpStill_nil ?_
        have HC := Lib.hid (sortEq_any a b bx sx so w3 g ((HOK.out a (List.mem_of_getElem? HA.out)).ext HE1.out) ((HOK.out b (List.mem_of_getElem? HB.out)).ext HE1.out) (HE1.out.cell HB1.out) (HE1.out.cell HB2.out))
        unfold NItem.agg at HC
        clear t1 t2 t3 t4 HL1 a1 a2 a3 a4 a5
        cases heq : eqIt a b with
        | false =>
          rw [heq] at HC
          have HEQ := Lib.hid heq
          clear heq
          go_wp2_with fail
          refine HC.out.mono ?_
          rintro e w' ⟨rfl, he⟩
          have HE2 := Lib.hid (HE1.out.trans he)
          clear he
          go_wp2_with fail
          go_roundw
          case rel =>
            refine ⟨k + 1, by omega, by omega, by go_num, HE2, Lib.hid (fun j x y hj hx hy => ?_)⟩
            by_cases e : j + 1 = k
            · subst e
              rw [HA.out] at hx
              have hB := HB.out
              rw [show j + 1 - 1 = j from by omega, hy] at hB
              cases hx; cases hB
              exact HEQ.out
            · exact HQ.out j x y (by omega) hx hy
          case measure => simp [intOf]; omega
        | true =>
          rw [heq] at HC
          have HEQ := Lib.hid heq
          clear heq
          have HCP : Hid (compact L = L.take k ++ compGo a (L.drop (k + 1))) := Lib.hid (by
            obtain ⟨m, rfl⟩ : ∃ m, k = m + 1 := ⟨k - 1, by omega⟩
            rw [compGo_take (k := m) HQ.out HB.out, compGo_eq HA.out HEQ.out])
          go_wp2_with fail
          refine HC.out.mono ?_
          rintro e w' ⟨rfl, he⟩
          have HE2 := Lib.hid (HE1.out.trans he)
          clear he HC HE1
          go_wp2_with fail
          obtain ⟨wo, rfl⟩ : ∃ wo : World, wo = wr := ⟨_, rfl⟩
          go_loopw [7, 5] (fun s i wx => ∃ (j : Nat) (pre : List NItem) (last : NItem), 1 ≤ j ∧ j ≤ L.length - k ∧ s = .int .i64 j ∧ i = .int .i64 (pre.length : Nat) ∧ k ≤ pre.length ∧ pre.length + 1 ≤ k + j ∧ Hid (L[k + j - 1]? = some last) ∧ Hid (compact L = pre ++ compGo last (L.drop (k + j))) ∧ Hid (Lst wx g (cap * 2) (pre ++ L.drop pre.length)) ∧ Hid (w.grownBy wx (some g))) (fun s _ _ => L.length - (intOf s).toNat)
          case atStart =>
            have hlt' : (L.take k).length = k := by rw [List.length_take]; omega
            refine ⟨1, L.take k, a, by omega, by omega, rfl, by rw [hlt'], by omega, by omega, Lib.hid (by rw [show k + 1 - 1 = k from by omega]; exact HA.out), HCP, Lib.hid ?_, Lib.hid (gb_of_ext HE2.out g)⟩
            rw [hlt', List.take_append_drop]
            exact HL.out.ext HE2.out
          case round =>
            clear HE2 HCP HEQ HQ HA HB
            obtain ⟨j, pre, last, hj1, hj, rfl, rfl, hp1, hp2, HLA, HCP, HLS, HGB⟩ := hrel
            by_cases hjl : j < L.length - k
            · obtain ⟨a2, ha2⟩ := getElem?_of_lt (l := L) (k := k + j) (by omega)
              have m1 : (pre ++ L.drop pre.length)[k + j]? = some a2 := by rw [mem_at (by omega)]; exact ha2
              have m2 : (pre ++ L.drop pre.length)[k + (j - 1)]? = some last := by rw [mem_at (by omega), show k + (j - 1) = k + j - 1 from by omega]; exact HLA.out
              have t1 := HLS.out.cell0 m1
              have t2 := HLS.out.cell1 m1
              have t3 := HLS.out.cell0 m2
              have t4 := HLS.out.cell1 m2
              rw [Nat.add_mul] at t1 t2 t3 t4
              have HA2 := Lib.hid ha2
              have HM1 := Lib.hid m1
              clear ha2 m1 m2
              have t1' : wr.drew.cell? _ = _ := t1
              have t2' : wr.drew.cell? _ = _ := t2
              have t3' : wr.drew.cell? _ = _ := t3
              have t4' : wr.drew.cell? _ = _ := t4
              have HGB1 : Hid (w.grownBy wr.drew (some g)) := Lib.hid (gb_trans HGB.out (gb_of_ext ((Ext.refl _).drew) g))
              have HLS1 : Hid (Lst wr.drew g (cap * 2) (pre ++ L.drop pre.length)) := Lib.hid (HLS.out.ext ((Ext.refl _).drew))
              clear t1 t2 t3 t4 HGB HLS
              have hjz : (j : Int) < ((L.length - k : Nat) : Int) := by omega
              have a1 : IntKind.i64.wrap ((j : Int) - 1) = (j : Int) - 1 := IntWalk.i64_in _ (by omega)
              have a2' : 0 ≤ (j : Int) - 1 := by omega
              have a3 : ((j : Int) - 1).toNat = j - 1 := by omega
              have a4 : (j : Int) - 1 < ((L.length - k : Nat) : Int) := by omega
              have a5 : (1 : Int) ≤ (j : Int) := by omega
              go_wp2_with fail
              refine region_still_tail 10 (by kernel_rfl) (by kernel_rfl) ?_
              simp only [List.take_succ_cons, List.take_zero, List.drop_succ_cons, List.drop_zero]
              generalize wr.drew = w3 at *
              iterate 10 still_step
              refine wpStill_nil ?_
              have HC := Lib.hid (sortEq_any a2 last bx sx so w3 g ((HOK.out a2 (List.mem_of_getElem? HA2.out)).gb HGB1.out) ((HOK.out last (List.mem_of_getElem? HLA.out)).gb HGB1.out) (gb_cell HGB1.out HB1.out HN1.out) (gb_cell HGB1.out HB2.out HN2.out))
              unfold NItem.agg at HC
              clear t3' t4' a1 a2' a3 a4 a5
              cases heq : eqIt a2 last with
              | true =>
                rw [heq] at HC
                have HEQ := Lib.hid heq
                clear heq t1' t2'
                go_wp2_with fail
                refine HC.out.mono ?_
                rintro e w4 ⟨rfl, he⟩
                have HGB2 := Lib.hid (gb_trans HGB1.out (gb_of_ext he g))
                have HLS2 := Lib.hid (HLS1.out.ext he)
                clear he
                go_wp2_with fail
                go_roundw
                case rel =>
                  refine ⟨j + 1, pre, a2, by omega, by omega, by go_num, rfl, hp1, by omega, Lib.hid (by rw [show k + (j + 1) - 1 = k + j from by omega]; exact HA2.out), Lib.hid ?_, HLS2, HGB2⟩
                  obtain ⟨m, hm⟩ : ∃ m, k + j = m + 1 := ⟨k + j - 1, by omega⟩
                  have h1 := HA2.out
                  rw [hm] at h1
                  rw [HCP.out, hm, compGo_eq h1 HEQ.out, show k + (j + 1) = m + 1 + 1 from by omega]
                case measure => simp [intOf]; omega
              | false =>
                rw [heq] at HC
                have HEQ := Lib.hid heq
                clear heq
                have hpl : pre.length < L.length := by omega
                have hpz : (pre.length : Int) < (L.length : Int) := by omega
                obtain ⟨p, hp⟩ : ∃ p, p = pre.length := ⟨_, rfl⟩
                go_wp2_with fail
                refine HC.out.mono ?_
                rintro e w4 ⟨rfl, he⟩
                have HGB2 := Lib.hid (gb_trans HGB1.out (gb_of_ext he g))
                have HLS2 := Lib.hid (HLS1.out.ext he)
                have s1 := he.cell t1'
                have s2 := he.cell t2'
                have hlm : pre.length < (pre ++ L.drop pre.length).length := by rw [List.length_append, List.length_drop]; omega
                obtain ⟨q, hq⟩ := getElem?_of_lt hlm
                have s3 := HLS2.out.cell0 hq
                have s4 := HLS2.out.cell1 hq
                have s5 := HLS2.out.frozen (pre.length * 2)
                have s6 := HLS2.out.frozen (pre.length * 2 + 1)
                have HSET := Lib.hid (HLS2.out.set hlm a2)
                clear he t1' t2' hq hlm HC hp
                go_wp2_with fail
                go_roundw
                case rel =>
                  refine ⟨j + 1, pre ++ [a2], a2, by omega, by omega, by go_num, by simp, by simp; omega, by simp; omega, Lib.hid (by rw [show k + (j + 1) - 1 = k + j from by omega]; exact HA2.out), Lib.hid ?_, Lib.hid ?_, Lib.hid (gb_set (gb_set HGB2.out _ _) _ _)⟩
                  · obtain ⟨m, hm⟩ : ∃ m, k + j = m + 1 := ⟨k + j - 1, by omega⟩
                    have h1 := HA2.out
                    rw [hm] at h1
                    rw [HCP.out, hm, compGo_ne h1 HEQ.out, show k + (j + 1) = m + 1 + 1 from by omega]
                    simp
                  · have := HSET.out
                    rw [mem_set hpl] at this
                    exact this
                case measure => simp [intOf]; omega
            · have hjl' : j = L.length - k := by omega
              have HF : Hid (compact L = pre) := Lib.hid (by rw [HCP.out, show k + j = L.length from by omega, List.drop_length]; simp [compGo])
              have hpl : pre.length < L.length := by omega
              have hcl : ∀ ty, (Builtin.clear_ #[60] ty #[.slice (some ⟨g, pre.length * 2, none⟩) (L.length - pre.length) (cap - pre.length)]).run Tryz.prog wr = .ok (.tuple #[]) (wr.setCells g (pre.length * 2) (Builtin.zeroCells #[.int .i64 0, .slice none 0 0] (L.length - pre.length)).toList) := fun ty => by
                obtain ⟨f, f1, f2, f3⟩ := HLS.out
                refine run_clear_agg wr _ 67 ty (.agg #[.int .i64 0, .slice none 0 0]) Tryz.underlying60 HZ.out (by simp [Value.cells, Value.oneCell']) (by simp [Value.cells]) g _ _ _ (by omega) (fun j hj => ?_) (fun j hj => f1.frozen _)
                simp [Value.cells] at hj
                rw [f1.cell (by omega)]; rfl
              have HCL : Hid (Lst (wr.setCells g (pre.length * 2) (Builtin.zeroCells #[.int .i64 0, .slice none 0 0] (L.length - pre.length)).toList) g (cap * 2) pre) := Lib.hid (by
                obtain ⟨f, f1, f2, f3⟩ := HLS.out
                obtain ⟨f', q1, q2, _⟩ := setCells_row (Builtin.zeroCells #[.int .i64 0, .slice none 0 0] (L.length - pre.length)).toList (pre.length * 2) wr f f1
                refine ⟨f', q1, by omega, fun i it hi => ?_⟩
                have hlt := (List.getElem?_eq_some_iff.1 hi).1
                have := f3 i it (by rw [List.getElem?_append_left hlt]; exact hi)
                rw [q2 _ (by omega), q2 _ (by omega)]
                exact this)
              have HGB3 : Hid (w.grownBy (wr.setCells g (pre.length * 2) (Builtin.zeroCells #[.int .i64 0, .slice none 0 0] (L.length - pre.length)).toList) (some g)) := Lib.hid (gb_setCells (b := wr) _ _ HGB.out)
              clear hjl'
              go_wp2_with fail
              go_ret
              rw [HF.out]
              exact ⟨rfl, HCL.out, HGB3.out⟩
      · have HC : Hid (compact L = L) := Lib.hid (compact_all (fun j a b h => HQ.out j a b (by omega)))
        go_wp2_with fail
        go_ret
        rw [HC.out]
        exact ⟨rfl, HL.out.ext HE.out, gb_of_ext HE.out g⟩
end Go.Proofs.YtobnpabndpmabaaGreat
namespace Go.Proofs.YtobnpabndpmabaaGreat
open Go.RowKit
def nextAt (l : List Int) (a : Nat) : Nat := if a < l.length then a + 1 else a
end Go.Proofs.YtobnpabndpmabaaGreat
namespace Go.Proofs.YtobnpabndpmabaaGreat
open Go.RowKit
def tapG (v : Value) (a : Nat) (g : Nat → Value) : Nat → Value := fun j => if j = 0 then v else if j = 1 then .int .i64 (a : Int) else g j
set_option maxRecDepth 100000 in
set_option maxHeartbeats 1000000 in
theorem next_anyN (tx n : Nat) (A : Option Addr) (c : Nat) (l : List Int) (a : Nat) (g : Nat → Value) (w : World) (hn : 2 ≤ n) (hl : RdI .i8 w A l) (hb : ∀ z ∈ l, -128 ≤ z ∧ z ≤ 127) (ll : l.length ≤ 9223372036854775807) (ha : a ≤ l.length) (hT : w.rowIs tx 57 n (tapG (.slice A l.length c) a g)) (hne : l ≠ [] → ∀ p, A = some p → p.block ≠ tx) :
    Calls Tryz.prog 30 #[.pointer (some ⟨tx, 0, none⟩)] w fun e w' => e = .returned (.int .i64 (l.getD a 0)) ∧ w'.rowIs tx 57 n (tapG (.slice A l.length c) (nextAt l a) g) ∧ w.grownBy w' (some tx) := by
  have HT := Lib.hid hT
  have HL := Lib.hid hl
  have HB := Lib.hid hb
  have HN := Lib.hid hne
  clear hT hl hb hne
  have t0 : w.cell? ⟨tx, 0, none⟩ = some (.slice A l.length c) := HT.out.cell (by omega)
  have t1 : w.cell? ⟨tx, 1, none⟩ = some (.int .i64 (a : Int)) := HT.out.cell (by omega)
  have t2 : w.frozen? ⟨tx, 1, none⟩ = false := HT.out.frozen 1
  by_cases hlt : a < l.length
  · obtain ⟨z, hz⟩ := getElem?_of_lt hlt
    obtain ⟨b, off, rfl, hc⟩ := HL.out.at_ hz
    have hbt : b ≠ tx := HN.out (by rintro rfl; simp at hlt) _ rfl
    have hzb := HB.out z (List.mem_of_getElem? hz)
    have hz1 := hzb.1
    have hz2 := hzb.2
    have HZ : Hid (l.getD a 0 = z) := Lib.hid (by rw [List.getD_eq_getElem?_getD, hz]; rfl)
    have HNx : Hid (nextAt l a = a + 1) := Lib.hid (if_pos hlt)
    clear hz hzb
    go_enter Tryz.func30, Tryz.ntmps30
    go_wp2_with fail
    go_quiet (fail)
    go_wp2_with fail
    have hrow := ((rowIs_drewN HT.out nq).set 1 (.int .i64 ((a : Int) + 1))).congr (g := tapG (.slice (some ⟨b, off, none⟩) l.length c) (a + 1) g) (fun j hj => by
      match j, hj with
      | 0, _ => rfl
      | 1, _ => simp [tapG]
      | j + 2, _ => simp [tapG])
    have HROW := Lib.hid hrow
    have HG := Lib.hid (gb_set (gb_of_ext ((Ext.refl w).drewN nq) tx) 1 (.int .i64 ((a : Int) + 1)))
    have s0 : ((w.drewN nq).setCell ⟨tx, 1, none⟩ (.int .i64 ((a : Int) + 1))).cell? ⟨tx, 0, none⟩ = some (.slice (some ⟨b, off, none⟩) l.length c) := HROW.out.cell (i := 0) (by omega)
    have s1 : ((w.drewN nq).setCell ⟨tx, 1, none⟩ (.int .i64 ((a : Int) + 1))).cell? ⟨tx, 1, none⟩ = some (.int .i64 ((a : Int) + 1)) := by
      have := HROW.out.cell (i := 1) (by omega)
      rw [this]; simp [tapG]
    have s2 : ((w.drewN nq).setCell ⟨tx, 1, none⟩ (.int .i64 ((a : Int) + 1))).cell? ⟨b, off + a, none⟩ = some (.int .i8 z) := gb_cell HG.out hc hbt
    have a1 : IntKind.i64.wrap ((a : Int) + 1 - 1) = (a : Int) := by rw [Int.add_sub_cancel]; exact IntWalk.i64_in _ (by omega)
    have a2 : (a : Int) < (l.length : Int) := by omega
    clear t0 t1 t2 hc hrow
    generalize (w.drewN nq).setCell ⟨tx, 1, none⟩ (.int .i64 ((a : Int) + 1)) = w3 at *
    go_quiet (fail)
    go_wp2_with fail
    go_ret
    rw [HZ.out, HNx.out]
    exact ⟨rfl, rowIs_drewN HROW.out _, gb_trans HG.out (gb_of_ext ((Ext.refl _).drewN _) tx)⟩
  · go_enter Tryz.func30, Tryz.ntmps30
    have HZ : Hid (l.getD a 0 = 0) := Lib.hid (by rw [List.getD_eq_getElem?_getD, List.getElem?_eq_none (by omega)]; rfl)
    have HNx : Hid (nextAt l a = a) := Lib.hid (if_neg hlt)
    go_wp2_with fail
    go_quiet (fail)
    go_wp2_with fail
    go_ret
    rw [HZ.out, HNx.out]
    exact ⟨rfl, rowIs_drewN HT.out _, gb_of_ext ((Ext.refl _).drewN _) tx⟩
def f8 (z : Int) : List PV := [.raw (.int .i8 z)]
abbrev tcs (L : List Int) (a : Nat) : List PV := [.sl (ls f8 L), .raw (.int .i64 (a : Int))]
abbrev tptr (b : Nat) : TV := .raw (.pointer (some ⟨b, 0, none⟩))
def I8 (L : List Int) : Prop := ∀ z ∈ L, -128 ≤ z ∧ z ≤ 127
theorem I8.getD {L : List Int} (h : I8 L) (a : Nat) : -128 ≤ L.getD a 0 ∧ L.getD a 0 ≤ 127 := by
  rw [List.getD_eq_getElem?_getD]
  cases hx : L[a]? with
  | none => simp
  | some z => exact h z (List.mem_of_getElem? hx)
theorem rep_rd8 {X : Nat → Prop} {w : World} {l : List Int} {v : Value} (h : Rep X w (.sl (ls f8 l)) v) : ∃ A c, v = .slice A l.length c ∧ l.length ≤ 9223372036854775807 ∧ RdI .i8 w A l ∧ (l ≠ [] → ∀ p, A = some p → ¬ X p.block) := by
  generalize hx : PV.sl (ls f8 l) = x at h
  cases h with
  | raw v h => cases hx
  | ptr b off cs f hX hb hc hr => cases hx
  | nil a c =>
    injection hx with hx
    have hl : l = [] := by simpa [ls] using hx
    subst hl
    exact ⟨a, c, rfl, by simp, RdI.nil _ _ _, fun h => absurd rfl h⟩
  | sl b off es cap xs f hX hb hes hcap hm hc hr =>
    injection hx with hx
    subst hx
    rw [ls_len] at hcap hm
    refine ⟨some ⟨b, off, none⟩, cap, by rw [ls_len], hm, fun hne => ⟨b, off, rfl, fun i x hx => ?_⟩, fun _ p hp => by injection hp with hp; subst hp; exact hX⟩
    rw [List.getElem?_map] at hx
    obtain ⟨z, hz, rfl⟩ := Option.map_eq_some_iff.1 hx
    have h1 : (ls f8 l)[i]? = some (f8 z) := by rw [ls_get, hz]; rfl
    have he : es = 1 := by rw [← hes _ (List.mem_of_getElem? h1)]; rfl
    subst he
    have h2 := hc i _ 0 _ h1 rfl
    have h3 := rep_raw (hr i _ 0 _ h1 rfl)
    rw [h3, Nat.mul_one, Nat.add_zero] at h2
    exact h2
theorem Next_T (b : Nat) (L : List Int) (a : Nat) (hL : I8 L) (ha : a ≤ L.length) : CallT Tryz.prog b 57 30 [tptr b] (tcs L a) ⟨[], .raw (.int .i64 (L.getD a 0))⟩ (tcs L (nextAt L a)) := by
  refine ⟨by kernel_rfl, fun X w vs hX hXb hbox hvs hargs => ?_⟩
  obtain ⟨cells, c, h1, h2, h3, h4, h5, h6⟩ := hbox
  obtain ⟨v0, e0, r0⟩ := hargs 0 _ rfl
  have hv0 : v0 = .pointer (some ⟨b, 0, none⟩) := rep_raw r0
  subst hv0
  obtain rfl : vs = #[.pointer (some ⟨b, 0, none⟩)] := by
    apply Array.ext_getElem?
    intro j
    match j with
    | 0 => exact e0
    | j + 1 => rw [Array.getElem?_eq_none (by simp at hvs; omega)]; rfl
  obtain ⟨v, c0, _, r1⟩ := h6 0 _ rfl
  obtain ⟨u, c1, _, r2⟩ := h6 1 _ rfl
  have hu := rep_raw r2
  subst hu
  obtain ⟨A, cap, rfl, hl, hrd, hb⟩ := rep_rd8 r1
  have hsz : cells.size = c * 2 := h2
  have hrow : w.rowIs b 57 (c * 2) (tapG (.slice A L.length cap) a fun j => (cells[j]?).getD undef) := by
    refine ⟨cells, h1, hsz, fun i hi => ?_⟩
    match i with
    | 0 => exact c0
    | 1 => exact c1
    | i + 2 => simp [tapG, hsz, hi]
  have hblk : L ≠ [] → ∀ p, A = some p → p.block ≠ b := fun hne p hp he => hb hne p hp (by rw [he]; exact hXb)
  refine (next_anyN b (c * 2) A cap L a _ w (by omega) hrd hL hl ha hrow hblk).mono fun e w' ⟨q1, ⟨cells', q2, q3, q4⟩, q5⟩ => ?_
  have hbut : ∀ k, k < w.heap.size → k ≠ b → w'.heap[k]? = w.heap[k]? := fun k hk hne => q5.block k hk (by simp; exact hne)
  have hXo : ∀ j, Xo X (fun _ _ => none) (famH 0 []) j → X j := fun j hj => by
    rcases hj with hj | ⟨_, _, _, _, _, g⟩
    · exact hj
    · cases g
  refine ⟨_, q1, fun _ _ => none, ?_, Rep.raw _ rfl, cells', c, q2, q3, h3, h4, h5, fun j x hx => ?_⟩
  · have e : ∀ a, famH 0 [] a = [] := fun a => by unfold famH; split <;> rfl
    refine ⟨⟨q5.os, q5.tape, q5.output, q5.size, fun k hk hn => hbut k hk hn⟩, fun a r o ho => ?_, fun a r a' r' o o' b c c' ho => ?_, fun a r o b c ho => ?_, fun j hj => Nat.lt_of_lt_of_le (hX j hj) q5.size, fun a r o ho => ?_⟩ <;> (rw [e] at ho; simp at ho)
  · match j, hx with
    | 0, hx =>
      have hx : x = .sl (ls f8 L) := by simpa using hx.symm
      subst hx
      refine ⟨.slice A L.length cap, q4 0 (by omega), rfl, r1.later (fun j _ hj => hXo j hj) q5.size fun p u hp hn hu => ?_⟩
      rw [cell_heap (hbut p.block hp (fun he => hn (by rw [he]; exact hXb)))]; exact hu
    | 1, hx =>
      have hx : x = .raw (.int .i64 (nextAt L a : Nat)) := by simpa using hx.symm
      subst hx
      exact ⟨_, q4 1 (by omega), rfl, Rep.raw _ rfl⟩
    | j + 2, hx => simp at hx
def belF (L : List Int) (a n : Nat) : Nat := ((L.getD a 0) % 256).toNat % n
theorem belF_lt {n : Nat} (L : List Int) (a : Nat) (h : 0 < n) : belF L a n < n := Nat.mod_lt _ h
theorem belF_wrap (L : List Int) (a n : Nat) : Int.tmod (L.getD a 0 % 256) (n : Int) = (belF L a n : Int) := by
  have h : L.getD a 0 % 256 = ((L.getD a 0 % 256).toNat : Int) := by omega
  unfold belF
  rw [Int.ofNat_tmod, ← h]
theorem wrapU8 (x : Int) : IntKind.u8.wrap x = x % 256 := by rw [IntKind.wrap_u8]
theorem nextAt_le {L : List Int} {a : Nat} (h : a ≤ L.length) : nextAt L a ≤ L.length := by unfold nextAt; split <;> omega
set_option maxRecDepth 100000 in
set_option maxHeartbeats 8000000 in
theorem Below_T (b : Nat) (L : List Int) (a n : Nat) (hL : I8 L) (ha : a ≤ L.length) (hn1 : 0 < n) (hn : n ≤ 100) : CallT Tryz.prog b 57 42 [tptr b, .raw (.int .i64 (n : Int))] (tcs L a) ⟨[], .raw (.int .i64 (belF L a n : Int))⟩ (tcs L (nextAt L a)) := by
  have c1 := Next_T b L a hL ha
  have e1 := belF_wrap L a n
  have e2 := wrapU8 (L.getD a 0)
  refine callT_of Tryz.func42 rfl (by kernel_rfl) ?_; rw [Tryz.ntmps42]
  (refine WpT_sreg [] [] (by simp) fun K hK => ?_; simp (disch := omega) only [kc, List.map, prep1, tptr, Nat.reduceAdd, List.replicate, ofConst, Value.oneCell']; (with_reducible refine hK _ ?_))
  (refine WpT_slent 1 c1 [] [] (by kernel_rfl) (by rfl) (by rfl) (by simp) fun K hK => ?_; simp (disch := omega) only [kc, List.map, tptr, prep1, Nat.reduceAdd, opS_call, newS, effA, List.find?_cons, evAll, norm, CallRes.plain, rawTV, rawAV, normOk, noRefTV, noRefAV, renTV, renAV, opS_conv, effM, Tryz.underlying2, ty_int5, e2, Tryz.underlying5, ty_int3, wrapI, evBin, e1, ifT]; (with_reducible refine hK _ ?_))
  (refine WpT_ret ⟨.inr rfl, rfl, ret_now rfl ?_ rfl⟩; simp (disch := omega) only [resA, Tryz.results42, resOne, List.getElem?_cons_succ, List.getElem?_cons_zero])
end Go.Proofs.YtobnpabndpmabaaGreat
namespace Go.Proofs.YtobnpabndpmabaaGreat
open Go.RowKit
def rwI (r : List Int) : OObj := ⟨2, 1, lc fI r⟩
abbrev kI (d n c i : Nat) (f : Nat → Nat → Int) : List OObj := ⟨29, 1, spn d (List.replicate i c) ++ List.replicate (n - i) nilC⟩ :: (mat i c f).map rwI
abbrev mxI (d n c : Nat) (f : Nat → Nat → Int) : List OObj := ⟨29, 1, spn d (List.replicate n c)⟩ :: (mat n c f).map rwI
theorem kI_end (d n c : Nat) (f : Nat → Nat → Int) : kI d n c n f = mxI d n c f := by simp [kI, mxI]
theorem kI_len {i n : Nat} (d c : Nat) (h : i ≤ n) : (spn d (List.replicate i c) ++ List.replicate (n - i) nilC).length = n := by simp [spn_len]; omega
theorem kI_get {i k n : Nat} (d c : Nat) (h : k < i) : (spn d (List.replicate i c) ++ List.replicate (n - i) nilC)[k]? = some [.sl d (k + 1) 0 c] := by
  rw [List.getElem?_append_left (by simp [spn_len]; exact h), spn_get d c h]
theorem kI_nil {i n : Nat} (d c : Nat) (h : i < n) : (spn d (List.replicate i c) ++ List.replicate (n - i) nilC)[i]? = some nilC := by
  rw [List.getElem?_append_right (by simp [spn_len]), spn_len, List.length_replicate, Nat.sub_self, List.getElem?_replicate, if_pos (by omega)]
theorem mxIr_get {n i : Nat} (c : Nat) (f : Nat → Nat → Int) (h : i < n) : ((mat n c f).map rwI)[i]? = some ⟨2, 1, lc fI (rowF c (f i))⟩ := by
  rw [List.getElem?_map, mat_get _ _ h]; rfl
theorem mxIr_set {n i j : Nat} (c : Nat) (f : Nat → Nat → Int) (v : Int) : ((mat n c f).map rwI).set i ⟨2, 1, (lc fI (rowF c (f i))).set j [.p (.raw (.int .i64 v))]⟩ = (mat n c (upd f i j v)).map rwI := by
  have e : (⟨2, 1, (lc fI (rowF c (f i))).set j [.p (.raw (.int .i64 v))]⟩ : OObj) = rwI (rowF c fun b => if b = j then v else f i b) := by
    rw [← rowF_set, rwI, ← lc_set]; rfl
  rw [e, ← List.map_set, mat_set]; rfl
theorem mxIr_congr {n c : Nat} {f g : Nat → Nat → Int} (h : ∀ i j, i < n → j < c → f i j = g i j) : (mat n c f).map rwI = (mat n c g).map rwI := by rw [mat_congr h]
theorem kI_make {i n c : Nat} (d : Nat) (f : Nat → Nat → Int) (hi : i < n) (h0 : ∀ j, j < c → f i j = 0) :
    (⟨29, 1, (spn d (List.replicate i c) ++ List.replicate (n - i) nilC).set i [.sl d (i + 1) 0 c]⟩ :: ((mat i c f).map rwI ++ [⟨2, 1, List.replicate c [.raw (.int .i64 0)]⟩]) : List OObj) = kI d n c (i + 1) f := by
  have e1 : (spn d (List.replicate i c) ++ List.replicate (n - i) nilC).set i [.sl d (i + 1) 0 c] = spn d (List.replicate (i + 1) c) ++ List.replicate (n - (i + 1)) nilC := by
    rw [List.set_append_right _ _ (by simp [spn_len]), spn_len, List.length_replicate, Nat.sub_self, List.replicate_succ' (n := i), spn_snoc, List.length_replicate, List.append_assoc]
    congr 1
    rw [show n - i = n - (i + 1) + 1 by omega, List.replicate_succ]
    rfl
  have e2 : (⟨2, 1, List.replicate c [.raw (.int .i64 0)]⟩ : OObj) = rwI (rowF c (f i)) := by
    rw [rwI]
    congr 1
    apply List.ext_getElem?
    intro j
    rw [List.getElem?_replicate, lc_get]
    by_cases hj : j < c
    · rw [if_pos hj, rowF_get _ hj, h0 j hj]; rfl
    · rw [if_neg hj, List.getElem?_eq_none (by rw [rowF_len]; omega)]; rfl
  rw [e1, e2, kI, mat_snoc, List.map_append]; rfl
theorem mxI_ren (d e n c : Nat) (f : Nat → Nat → Int) : (mxI d n c f).map (renO e) = mxI e n c f := by
  simp only [mxI, List.map_cons, List.map_map]
  congr 1
  · simp [renO, spn_ren]
  · exact List.map_congr_left fun r _ => by simp [renO, rwI, lc_ren]
theorem fzOk_mxI {H : OH} {d n c : Nat} {f : Nat → Nat → Int} (h : H d = mxI d n c f) : fzOk H d := fun r o ho e he x hx => by
  rw [h] at ho
  cases r with
  | succ r =>
    rw [List.getElem?_cons_succ, List.getElem?_map] at ho
    obtain ⟨l, hl, rfl⟩ := Option.map_eq_some_iff.1 ho
    exact .inl (pureRow_lc _ _ l e he x hx)
  | zero =>
    simp at ho
    subst ho
    simp only at he
    obtain ⟨k, hk⟩ := List.mem_iff_getElem?.1 he
    have hkn : k < n := by
      have := (List.getElem?_eq_some_iff.1 hk).1
      rwa [spn_len, List.length_replicate] at this
    rw [spn_get d c hkn] at hk
    injection hk with hk
    subst hk
    simp at hx
    subst hx
    refine .inr ⟨k + 1, 0, c, rwI (rowF c (f k)), rfl, ?_, pureRow_lc _ _ _⟩
    rw [h, List.getElem?_cons_succ, List.getElem?_map, mat_get _ _ hkn]; rfl
theorem fzMI {H : OH} {d n c : Nat} {f : Nat → Nat → Int} (h : H d = mxI d n c f) : fzTV H d (.one (.sl d 0 0 n)) = slI (mat n c f) := by
  have e : ((spn d (List.replicate n c)).map (List.map (cellF H d))) = ls (fR fI) (mat n c f) := by
    apply List.ext_getElem?
    intro i
    rw [List.getElem?_map, ls_get]
    by_cases hi : i < n
    · rw [spn_get d c hi, mat_get _ _ hi]
      simp only [Option.map_some, List.map_cons, List.map_nil, cellF, h, List.getElem?_cons_succ, mxIr_get _ _ hi, fR, lc_take, lc_drop, lc_pure]
      rw [List.drop_zero, List.take_of_length_le (by rw [rowF_len]; omega)]
    · rw [List.getElem?_eq_none (by rw [spn_len, List.length_replicate]; omega), List.getElem?_eq_none (by rw [mat_len]; omega)]; rfl
  simp only [fzTV, fzAV, if_true, h, List.getElem?_cons_zero]
  rw [List.drop_zero, List.take_of_length_le (by rw [spn_len, List.length_replicate]; omega), e]
def adv (L : List Int) (a : Nat) : Nat → Nat
  | 0 => a
  | i + 1 => nextAt L (adv L a i)
theorem adv_le {L : List Int} {a : Nat} (h : a ≤ L.length) : ∀ i, adv L a i ≤ L.length
  | 0 => h
  | i + 1 => nextAt_le (adv_le h i)
def dgF (L : List Int) (a most : Nat) : Nat → Nat → Int := fun i j => if i = j then 1 + (belF L (adv L a i) most : Int) else 0
def dgP (L : List Int) (a most i : Nat) : Nat → Nat → Int := fun x y => if x < i then dgF L a most x y else 0
theorem dgP_step (L : List Int) (a most i x y : Nat) : upd (dgP L a most i) i i (1 + (belF L (adv L a i) most : Int)) x y = dgP L a most (i + 1) x y := by
  unfold upd dgP dgF
  by_cases h1 : x = i
  · subst h1
    by_cases h2 : y = x
    · subst h2; simp
    · simp [h2, Ne.symm h2]
  · have : x < i + 1 ↔ x < i := by omega
    simp [h1, this]
set_option maxRecDepth 100000 in
set_option maxHeartbeats 8000000 in
theorem diagonal_T (b : Nat) (L : List Int) (a n most : Nat) (hL : I8 L) (ha : a ≤ L.length) (hn : n ≤ 8) (hm1 : 0 < most) (hmm : most ≤ 100) :
    CallT Tryz.prog b 57 65 [tptr b, .raw (.int .i64 (n : Int)), .raw (.int .i64 (most : Int))] (tcs L a) ⟨mxI 0 n n (dgF L a most), .one (.sl 0 0 0 n)⟩ (tcs L (adv L a n)) := by
  refine callT_of Tryz.func65 rfl (by kernel_rfl) ?_; rw [Tryz.ntmps65]
  (refine WpT_sreg [] [] (by simp) fun K hK => ?_; simp (disch := omega) only [kc, prep1, tptr, Nat.reduceAdd, List.replicate, ofConst, Value.oneCell']; (with_reducible refine hK _ ?_))
  (refine WpT_sreg [] [] (by simp) fun K hK => ?_; simp (disch := omega) only [kc, prep1, Nat.reduceAdd, opS_makeSlice, newS, effA, ty_slice26, ty_zero29, ty_sz29, ty_by29, Int.natCast_nonneg, Value.oneCell', and_true, ifT]; (with_reducible refine hK _ ?_))
  (refine WpT_seq (WpT_sreg [] [] (by simp) fun K hK => ?_); simp (disch := omega) only [kc, prep1, Nat.reduceAdd, opS_len, effR, ty_slice26, ofConst, Value.oneCell']; (with_reducible refine hK _ ?_))
  refine WpT_forb (G := FiG n) (fun g => ⟨[tptr b, .raw (.int .i64 (n : Int)), .raw (.int .i64 (most : Int)), jk, jk, jk, jk, .one (.sl 10 0 0 n), jk, jk, jk, jk, .raw (.int .i64 (n : Int)), .raw (.int .i64 (g.i : Int)), jk, jk, jk, jk, jk, jk, jk, jk, jk, jk, jk, jk, jk, jk, jk, jk, jk, jk, jk], Hm [(10, kI 10 n n g.i (dgP L a most g.i))]⟩) (fun g => tcs L (adv L a g.i)) (fun g => n - g.i) ⟨0, by omega⟩ ?_ rfl ?_
  · refine Weak_sub ⟨?_, trivial⟩ ?_
    · show [_] = _
      simp [spn, mat]
    · simp [wkL, okTV, okAV]
  · rintro ⟨i, hi⟩
    simp only
    by_cases hm : i < n
    · have c1 := Below_T b L (adv L a i) most hL (adv_le ha i) hm1 hmm
      have hbl := belF_lt (n := most) L (adv L a i) hm1
      have k1 := kI_nil (i := i) (n := n) 10 n hm
      have k2 := kI_len (i := i) (n := n) 10 n hi
      have k3 := mat_len i n (dgP L a most i)
      have k4 := kI_make (i := i) (n := n) (c := n) 10 (dgP L a most i) hm (fun j hj => by unfold dgP; rw [if_neg (by omega)])
      have k5 := kI_get (i := i + 1) (k := i) (n := n) 10 n (by omega)
      have k6 := kI_len (i := i + 1) (n := n) 10 n (by omega)
      have k7 := mxIr_get (n := i + 1) n (dgP L a most i) (i := i) (by omega)
      have k8 := rowF_get (dgP L a most i i) hm
      (refine WpT_sreg [] [] (by simp) fun K hK => ?_; simp (disch := omega) only [kc, prep1, tptr, Hm, effM, evBin, decT]; (with_reducible refine hK _ ?_))
      refine WpT_seq (WpT_cond rfl (fun _ => WpT_skip ?_) (fun h => by simp at h <;> omega))
      refine WpT_seq (WpT_block ?_)
      (refine WpT_sreg [] [] (by simp) fun K hK => ?_; simp (disch := omega) only [kc, prep1]; (with_reducible refine hK _ ?_))
      (refine WpT_sreg [] [] (by simp) fun K hK => ?_; simp (disch := omega) only [kc, prep1, Nat.reduceAdd, opS_makeSlice, newS, effA, ty_slice29, ty_zero2, ty_sz2, ty_by2, Int.natCast_nonneg, Value.oneCell', and_true, ifT, Nat.reduceEqDiff, opS_indexAddr, effR, natOf_pos, ty_slice26, updH, ty_sz29, opS_store, wrS, effD, k1, putCells, ifF, List.length_replicate, List.all_replicate, isPure, List.length_map, k3, k4, killTV, killAV, Nat.reduceBEq]; (with_reducible refine hK _ ?_))
      refine WpT.weak (Weak_sub (tm := [tptr b, .raw (.int .i64 (n : Int)), .raw (.int .i64 (most : Int)), jk, jk, jk, jk, .one (.sl 10 0 0 n), .raw (.int .i64 (i : Int)), jk, jk, jk, .raw (.int .i64 (n : Int)), .raw (.int .i64 (i : Int)), jk, jk, jk, jk, jk, jk, jk, jk, jk, jk, jk, jk, jk, jk, jk, jk, jk, jk, jk]) (l := [(10, kI 10 n n (i + 1) (dgP L a most i))]) ⟨?_, trivial⟩ (by simp [wkL, okTV, okAV])) ?_
      · first | exact k4 | rfl
      ((refine WpT_lldraw mixedA 7 c1 [] [] (by kernel_rfl) (by kernel_rfl) (by rfl) (by rfl) (by simp) fun K hK => ?_); simp (disch := omega) only [kc, tptr, prep1, Nat.reduceAdd, Hm, opS_indexAddr, effR, natOf_pos, ty_slice26, ty_sz29, ifT, k5, packT, ty_agg29, opS_call, newS, effA, List.find?_cons, evAll, norm, CallRes.plain, rawTV, rawAV, normOk, noRefTV, noRefAV, renTV, renAV, effM, ofConst, Value.oneCell', evBin, wrapI, ty_slice29, k7, ty_sz2, opS_store, wrS, effD, lc_get, fI, k8, cellsOf, Nat.le_refl, isPure, putCells, mxIr_set, killTV, killAV]; (with_reducible refine hK _ ?_))
      show WpT _ _ _ _ _ _ _
      ((refine WpT_lreg [] [] (by simp) fun K hK => ?_); simp (disch := omega) only [kc, prep1, effM, ofConst, Value.oneCell', evBin, wrapI]; (with_reducible refine hK _ ?_))
      refine ⟨⟨i + 1, by omega⟩, by simp only; omega, Weak_sub ⟨?_, trivial⟩ ?_, rfl⟩
      · show _ :: _ = _ :: _
        rw [mxIr_congr fun x y _ _ => dgP_step L a most i x y]
      · simp [wkL, okTV, okAV]
    · have hin : i = n := by omega
      subst hin
      (refine WpT_sreg [] [] (by simp) fun K hK => ?_; simp (disch := omega) only [kc, prep1, tptr, Hm, effM, evBin, decF]; (with_reducible refine hK _ ?_))
      refine WpT_seq (WpT_cond rfl (fun h => by simp at h <;> omega) (fun _ => WpT_exit ?_))
      show WpT _ _ _ _ _ _ _
      have e : kI 10 i i i (dgP L a most i) = mxI 10 i i (dgF L a most) := by
        rw [kI_end]
        show _ :: _ = _ :: _
        rw [mxIr_congr fun x y hx _ => show dgP L a most i x y = dgF L a most x y by unfold dgP; rw [if_pos hx]]
      rw [e]
      (refine WpT_sreg [] [] (by simp) fun K hK => ?_; simp (disch := omega) only [kc, prep1]; (with_reducible refine hK _ ?_))
      refine WpT_ret ⟨.inr rfl, rfl, _, Weak.refl _, ?_⟩
      refine ⟨.one (.sl 10 0 0 i), 10, ?_, rfl, ?_, rfl⟩
      · simp (disch := omega) only [resA, Tryz.results65, resOne, List.getElem?_cons_succ, List.getElem?_cons_zero]
      · exact (mxI_ren 10 0 _ _ _).symm
end Go.Proofs.YtobnpabndpmabaaGreat
namespace Go.Proofs.YtobnpabndpmabaaGreat
open Go.RowKit
theorem swT_swp (m : Nat) : swp (m + 1) m idF = swT m := by
  funext a
  unfold swp swT sgm
  by_cases h1 : a = m + 1
  · subst h1; simp
  · by_cases h2 : a = m
    · subst h2; simp
    · simp [h1, h2]
def stT (n : Nat) (f : Nat → Nat → Int) : Option Ch → TV
  | none => .tup [(false, [.p (.raw (.slice none 0 0))]), (false, [.p (.raw (.bool false))])]
  | some c => .tup [(false, [.p (.sl (ls (fR fZ) (mat n n (chT f c))))]), (false, [.p (.raw (.bool true))])]
structure StG (n : Nat) (f : Nat → Nat → Int) where
  i : Nat
  hi : i ≤ n
  h : scanF f n = scanI f (n - i) i
structure StJ (i : Nat) (f : Nat → Nat → Int) where
  k : Nat
  hk : k ≤ i
  h : scanJ f i i = scanJ f i k
set_option maxRecDepth 100000 in
set_option maxHeartbeats 16000000 in
theorem step_C (n : Nat) (f : Nat → Nat → Int) (hn1 : 1 ≤ n) (hn : n ≤ 8) (hp : ∀ k, k < n → 0 < dk f (k + 1)) (hf : ∀ i j, i < n → j < n → Sz (f i j) 1024) :
    CallC Tryz.prog 61 [slM (mat n n f)] ⟨[], stT n f (scanF f n)⟩ := by
  have hL := Leading_C n f hn1 (by omega) hf
  have hI := Identity_C n hn1 (by omega)
  have hml := mat_len n n f
  refine callC_of Tryz.func61 rfl (by kernel_rfl) ?_; rw [Tryz.ntmps61]
  (refine WpA_sreg [] [] (by simp) fun K hK => ?_; simp (disch := omega) only [kc, prep1, slM, List.replicate, ofConst, Value.oneCell']; (with_reducible refine hK _ ?_))
  (refine WpA_sreg [⟨1, _, _, _, hL⟩] [] (by simp) fun K hK => ?_; simp (disch := omega) only [kc, slM, ldT, CItem.a, prep1, Nat.reduceAdd, opS_call, newS, effA, List.find?_cons, evAll, norm, CallRes.plain, rawTV, rawAV, normOk, noRefTV, noRefAV, renTV, renAV, opS_extract, effM]; (with_reducible refine hK _ ?_))
  (refine WpA_sreg [⟨2, _, _, _, hI⟩] [] (by simp) fun K hK => ?_; simp (disch := omega) only [kc, CItem.a, prep1, Nat.reduceAdd, opS_len, effR, ty_slice50, ls_len, hml, opS_call, newS, effA, List.find?_cons, evAll, norm, CallRes.plain, List.isEmpty_cons, rawTV, rawAV, normOk, Bool.not_false, noRefTV, noRefAV, Bool.or_false, renTV, renAV, renO, opS_extract, effM]; (with_reducible refine hK _ ?_))
  (refine WpA_seq (WpA_sreg [] [] (by simp) fun K hK => ?_); simp (disch := omega) only [kc, prep1, Nat.reduceAdd, opS_len, effR, ty_slice50, ls_len, hml, ofConst, Value.oneCell']; (with_reducible refine hK _ ?_))
  refine WpA_forb (G := StG n f) (fun g => ⟨[slM (mat n n f), jk, jk, jk, slZ (ldF n f), jk, .one (.sl 18 0 0 n), jk, jk, jk, jk, jk, jk, jk, jk, jk, jk, jk, jk, jk, jk, jk, .raw (.int .i64 (n : Int)), .raw (.int .i64 (g.i : Int)), jk, jk, jk, jk, jk, jk, jk, jk, jk, jk, jk, jk, jk, jk, jk, jk, jk, jk, jk, jk, jk, jk, jk, jk, jk, jk, jk, jk, jk, jk, jk, jk, jk, jk, jk, jk, jk, jk, jk, jk, jk, jk, jk, jk, jk, jk, jk, jk, jk, jk, jk, jk, jk, jk, jk, jk, jk, jk, jk], Hm [(18, mxF 18 n n idF)]⟩) (fun g => n - g.i) ⟨0, by omega, rfl⟩ ?_ ?_
  · refine Weak_sub ⟨?_, trivial⟩ ?_
    · exact mxF_ren 0 18 n n _
    · simp [wkL, okTV, okAV]
  · rintro ⟨i, hi, hsc⟩
    simp only
    by_cases hm : i < n
    · have hsc2 : scanI f (n - i) i = match scanJ f i i with
        | some j => some (.add i j)
        | none => if 0 < i ∧ ¬ LovF f i then some (.swp (i - 1)) else scanI f (n - (i + 1)) (i + 1) := by
        rw [show n - i = n - (i + 1) + 1 by omega]; rfl
      (refine WpA_sreg [] [] (by simp) fun K hK => ?_; simp (disch := omega) only [kc, prep1, slM, slZ, Hm, effM, evBin, decT]; (with_reducible refine hK _ ?_))
      refine WpA_seq (WpA_cond rfl (fun _ => WpA_skip ?_) (fun h => by simp at h <;> omega))
      refine WpA_seq (WpA_block ?_)
      (refine WpA_sreg [] [] (by simp) fun K hK => ?_; simp (disch := omega) only [kc, prep1]; (with_reducible refine hK _ ?_))
      (refine WpA_seq (WpA_sreg [] [] (by simp) fun K hK => ?_); simp (disch := omega) only [kc, prep1, Nat.reduceAdd, effM, ofConst, Value.oneCell', evBin, wrapI]; (with_reducible refine hK _ ?_))
      refine WpA_forb (G := StJ i f) (fun g => ⟨[slM (mat n n f), jk, jk, jk, slZ (ldF n f), jk, .one (.sl 18 0 0 n), jk, .raw (.int .i64 (i : Int)), .raw (.int .i64 ((g.k : Int) - 1)), jk, jk, jk, jk, jk, jk, jk, jk, jk, jk, jk, jk, .raw (.int .i64 (n : Int)), .raw (.int .i64 (i : Int)), jk, jk, jk, jk, jk, jk, jk, jk, jk, jk, jk, jk, jk, jk, jk, jk, jk, jk, jk, jk, jk, jk, jk, jk, jk, jk, jk, jk, jk, jk, jk, jk, jk, jk, jk, jk, jk, jk, jk, jk, jk, jk, jk, jk, jk, jk, jk, jk, jk, jk, jk, jk, jk, jk, jk, jk, jk, jk, jk], Hm [(18, mxF 18 n n idF)]⟩) (fun g => g.k) ⟨i, by omega, rfl⟩ ?_ ?_
      · refine Weak_sub ⟨rfl, trivial⟩ ?_
        simp [wkL, okTV, okAV]
      · rintro ⟨k, hk, hsj⟩
        simp only
        cases k with
        | zero =>
          (refine WpA_seq (WpA_sreg [] [] (by simp) fun K hK => ?_); simp (disch := omega) only [kc, prep1, slM, slZ, Hm, effM, ofConst, Value.oneCell', evBin, decF]; (with_reducible refine hK _ ?_))
          refine WpA_cond rfl (fun h => by simp at h <;> omega) (fun _ => WpA_exit ?_)
          show WpA _ _ _ _
          have hsj0 : scanJ f i i = none := hsj
          rw [hsj0] at hsc2
          by_cases h0 : 0 < i
          · have c1 := Lovasz_C n f i (by omega) hm h0 hf
            by_cases hs : LovF f i
            · rw [decide_eq_true (show 3 * (dd f i * dd f i) ≤ 4 * (dd f (i - 1) * dd f (i + 1) + lam f i (i - 1) * lam f i (i - 1)) from hs)] at c1
              have hnx : scanF f n = scanI f (n - (i + 1)) (i + 1) := by rw [hsc, hsc2]; exact if_neg (by simp [hs])
              (refine WpA_sreg [⟨6, _, _, _, c1⟩] [] (by simp) fun K hK => ?_; simp (disch := omega) only [kc, slM, slZ, CItem.a, prep1, Nat.reduceAdd, effM, ofConst, Value.oneCell', evBin, decT, stS_guard, opS_call, newS, effA, List.find?_cons, evAll, norm, CallRes.plain, rawTV, rawAV, normOk, noRefTV, noRefAV, renTV, renAV, ifT, opS_un, evUn, opS_pick]; (with_reducible refine hK _ ?_))
              refine WpA_cond rfl (fun h => by simp at h) (fun _ => WpA_skip ?_)
              show WpA _ _ _ _
              ((refine WpA_lreg [] [] (by simp) fun K hK => ?_); simp (disch := omega) only [kc, prep1, effM, ofConst, Value.oneCell', evBin, wrapI]; (with_reducible refine hK _ ?_))
              refine ⟨⟨i + 1, by omega, hnx⟩, by simp only; omega, Weak_sub ⟨rfl, trivial⟩ ?_⟩
              simp [wkL, okTV, okAV]
            · rw [decide_eq_false (show ¬ 3 * (dd f i * dd f i) ≤ 4 * (dd f (i - 1) * dd f (i + 1) + lam f i (i - 1) * lam f i (i - 1)) from hs)] at c1
              have hnx : scanF f n = some (.swp (i - 1)) := by rw [hsc, hsc2]; exact if_pos ⟨h0, hs⟩
              rw [hnx]
              have x0 : ((i : Int) - 1).toNat = i - 1 := by omega
              have g1 := spn_get (n := n) (i := i) 18 n hm
              have g2 := spn_get (n := n) (i := i - 1) 18 n (by omega)
              have g4 : ((spn 18 (List.replicate n n)).set i [.sl 18 (i - 1 + 1) 0 n])[i - 1]? = some [.sl 18 (i - 1 + 1) 0 n] := by
                rw [List.getElem?_set_ne (by omega), g2]
              (refine WpA_sreg [⟨6, _, _, _, c1⟩] [] (by simp) fun K hK => ?_; simp (disch := omega) only [kc, slM, slZ, CItem.a, prep1, Nat.reduceAdd, effM, ofConst, Value.oneCell', evBin, decT, stS_guard, opS_call, newS, effA, List.find?_cons, evAll, norm, CallRes.plain, rawTV, rawAV, normOk, noRefTV, noRefAV, renTV, renAV, ifT, opS_un, evUn, Bool.not_false, opS_pick]; (with_reducible refine hK _ ?_))
              refine WpA_cond rfl (fun _ => ?_) (fun h => by simp at h)
              (refine WpA_sdraw mixedA [] [] (by kernel_rfl) (by simp) fun K hK => ?_; simp (disch := omega) only [kc, prep1, Nat.reduceAdd, effM, ofConst, Value.oneCell', evBin, wrapI, opS_indexAddr, effR, natOf_pos, x0, ty_slice50, ty_sz122, ifT, g2, packT, ty_agg122, g1, opS_store, wrS, effD, putCells, ifF, killTV, killAV, updH, g4, reduceCtorEq, false_and, List.length_map]; (with_reducible refine hK _ ?_))
              refine WpA.weak ((Weak_sw 18 (i + 1) (i - 1 + 1) (mxF 18 n n (swp i (i - 1) idF)) (mx_swap idF hm (by omega) (by omega))).trans (Weak_sub (tm := [jk, jk, jk, jk, jk, jk, .one (.sl 18 0 0 n), jk, jk, jk, jk, jk, jk, jk, jk, jk, jk, jk, jk, jk, jk, jk, jk, jk, jk, jk, jk, jk, jk, jk, jk, jk, jk, jk, jk, jk, jk, jk, jk, jk, jk, jk, jk, jk, jk, jk, jk, jk, jk, jk, jk, jk, jk, jk, jk, jk, jk, jk, jk, jk, jk, jk, jk, jk, jk, jk, jk, jk, jk, jk, jk, jk, jk, jk, jk, jk, jk, jk, jk, jk, jk, jk, jk]) (l := [(18, mxF 18 n n (swp i (i - 1) idF))]) ⟨rfl, trivial⟩ (by simp [wkL, okTV, okAV, swTV, swAV, ixS, sw]))) ?_
              rw [show swp i (i - 1) idF = swT (i - 1) by rw [← swT_swp, show i - 1 + 1 = i by omega]]
              refine WpA.weak ((Weak_fz 18 (fzOk_mx rfl)).trans (Weak_sub (tm := [jk, jk, jk, jk, jk, jk, slM (mat n n (swT (i - 1))), jk, jk, jk, jk, jk, jk, jk, jk, jk, jk, jk, jk, jk, jk, jk, jk, jk, jk, jk, jk, jk, jk, jk, jk, jk, jk, jk, jk, jk, jk, jk, jk, jk, jk, jk, jk, jk, jk, jk, jk, jk, jk, jk, jk, jk, jk, jk, jk, jk, jk, jk, jk, jk, jk, jk, jk, jk, jk, jk, jk, jk, jk, jk, jk, jk, jk, jk, jk, jk, jk, jk, jk, jk, jk, jk, jk]) (l := []) trivial (by simp [wkL, okTV, okAV]; exact (fzM (H := Hm [(18, mxF 18 n n (swT (i - 1)))]) (d := 18) (n := n) (c := n) (f := swT (i - 1)) rfl).symm))) ?_
              (refine WpA_sreg [] [] (by simp) fun K hK => ?_; simp (disch := omega) only [kc, prep1, Nat.reduceAdd, slM, Hm, ofConst, Value.oneCell']; (with_reducible refine hK _ ?_))
              (refine WpA_ret ⟨.inr rfl, ret_now rfl ?_ rfl⟩; simp (disch := omega) only [resA, Tryz.results61, resL, resOne, List.getElem?_cons_succ, List.getElem?_cons_zero, Option.bind_some, tvPair, Option.map_some, stT, chT])
          · have hi0 : i = 0 := by omega
            subst hi0
            have hnx : scanF f n = scanI f (n - (0 + 1)) (0 + 1) := by rw [hsc, hsc2]; exact if_neg (by simp)
            (refine WpA_sreg [] [] (by simp) fun K hK => ?_; simp (disch := omega) only [kc, prep1, Nat.reduceAdd, effM, ofConst, Value.oneCell', evBin, decF, stS_guard, opS_call, newS, effA, List.find?_nil, evAll, opS_un, Option.map_none, opS_pick]; (with_reducible refine hK _ ?_))
            refine WpA_cond rfl (fun h => by simp at h) (fun _ => WpA_skip ?_)
            show WpA _ _ _ _
            ((refine WpA_lreg [] [] (by simp) fun K hK => ?_); simp (disch := omega) only [kc, prep1, effM, ofConst, Value.oneCell', evBin, wrapI]; (with_reducible refine hK _ ?_))
            refine ⟨⟨1, by omega, hnx⟩, by simp only; omega, Weak_sub ⟨rfl, trivial⟩ ?_⟩
            simp [wkL, okTV, okAV]
        | succ j =>
          have x1 : ((j + 1 : Nat) : Int) - 1 = (j : Int) := by omega
          rw [x1]
          have c1 := Sized_C n f i j (by omega) hm (by omega) hf
          by_cases hs : SizF f i j
          · rw [decide_eq_true (show 2 * ((lam f i j).natAbs : Int) ≤ dd f (j + 1) from hs)] at c1
            have hnx : scanJ f i i = scanJ f i j := by rw [hsj]; exact if_pos hs
            (refine WpA_seq (WpA_sreg [] [] (by simp) fun K hK => ?_); simp (disch := omega) only [kc, prep1, slM, slZ, Hm, effM, ofConst, Value.oneCell', evBin, Int.natCast_nonneg, decT]; (with_reducible refine hK _ ?_))
            refine WpA_cond rfl (fun _ => WpA_skip ?_) (fun h => by simp at h <;> omega)
            refine WpA_seq (WpA_block ?_)
            (refine WpA_sreg [⟨4, _, _, _, c1⟩] [] (by simp) fun K hK => ?_; simp (disch := omega) only [kc, slM, slZ, CItem.a, prep1, Nat.reduceAdd, opS_call, newS, effA, List.find?_cons, evAll, norm, CallRes.plain, rawTV, rawAV, normOk, noRefTV, noRefAV, renTV, renAV, opS_un, effM, evUn]; (with_reducible refine hK _ ?_))
            refine WpA_cond rfl (fun h => by simp at h) (fun _ => WpA_skip ?_)
            show WpA _ _ _ _
            ((refine WpA_lreg [] [] (by simp) fun K hK => ?_); simp (disch := omega) only [kc, prep1, Nat.reduceAdd, effM, ofConst, Value.oneCell', evBin, wrapI]; (with_reducible refine hK _ ?_))
            refine ⟨⟨j, by omega, hnx⟩, by simp only; omega, Weak_sub ⟨rfl, trivial⟩ ?_⟩
            simp [wkL, okTV, okAV]
          · rw [decide_eq_false (show ¬ 2 * ((lam f i j).natAbs : Int) ≤ dd f (j + 1) from hs)] at c1
            have hnx : scanJ f i i = some j := by rw [hsj]; exact if_neg hs
            have hnx2 : scanF f n = some (.add i j) := by rw [hsc, hsc2, hnx]
            rw [hnx2, show stT n f (some (.add i j)) = .tup [(false, [.p (.sl (ls (fR fZ) (mat n n (upd idF j i (cF f i j)))))]), (false, [.p (.raw (.bool true))])] from rfl]
            have hdp : 0 < dd f (j + 1) := by rw [dd_dk hp (by omega)]; exact hp j (by omega)
            have sl := lam_sz (n := n) (i := i) (j := j) (by omega) hm (by omega) hf
            have sd := dd_sz (n := n) (k := j + 1) (by omega) (by omega) hf
            have d1 := Lambda_C n f i j (by omega) hm (by omega) hf
            have d2 := minor_C n f (j + 1) (by omega) (by omega)
            rw [show ((j + 1 : Nat) : Int) = (j : Int) + 1 by omega] at d2
            have d3 := Quotient_C (lam f i j) (dd f (j + 1)) hdp (sl.mono (by omega)) (sd.mono (by omega))
            have hnd := nD_pos (n := lam f i j) hdp
            have d4 := Nearest_C (nN (lam f i j) (dd f (j + 1))) (nD (lam f i j) (dd f (j + 1))) hnd ((nN_sz sl).mono (by omega)) ((nD_sz sd).mono (by omega))
            rw [qF_n hdp] at d4
            have sq : Sz (qF (lam f i j) (dd f (j + 1))) 67174401 := by
              have h1 := qF_abs (l := lam f i j) hdp
              have h2 : Sz ((lam f i j).natAbs + 1 : Int) (67174400 + 1) := Sz.add (sl.le (by omega)) (sz_one (by omega))
              exact h2.le (by omega)
            have d5 := neg_C (qF (lam f i j) (dd f (j + 1))) (sq.mono (by omega))
            rw [show -(qF (lam f i j) (dd f (j + 1))) = cF f i j from rfl] at d5
            have g1 := spn_get (n := n) (i := j) 18 n (by omega)
            have g2 := mxr_get n idF (show j < n by omega)
            have g3 := rowF_get (idF j) hm
            generalize cF f i j = cc at *
            generalize qF (lam f i j) (dd f (j + 1)) = qq at *
            generalize nN (lam f i j) (dd f (j + 1)) = n1 at *
            generalize nD (lam f i j) (dd f (j + 1)) = n2 at *
            (refine WpA_seq (WpA_sreg [] [] (by simp) fun K hK => ?_); simp (disch := omega) only [kc, prep1, slM, slZ, Hm, effM, ofConst, Value.oneCell', evBin, Int.natCast_nonneg, decT]; (with_reducible refine hK _ ?_))
            refine WpA_cond rfl (fun _ => WpA_skip ?_) (fun h => by simp at h <;> omega)
            refine WpA_seq (WpA_block ?_)
            (refine WpA_sreg [⟨4, _, _, _, c1⟩] [] (by simp) fun K hK => ?_; simp (disch := omega) only [kc, slM, slZ, CItem.a, prep1, Nat.reduceAdd, opS_call, newS, effA, List.find?_cons, evAll, norm, CallRes.plain, rawTV, rawAV, normOk, noRefTV, noRefAV, renTV, renAV, opS_un, effM, evUn, Bool.not_false]; (with_reducible refine hK _ ?_))
            refine WpA_cond rfl (fun _ => ?_) (fun h => by simp at h)
            (refine WpA_sdraw mixedA [⟨8, _, _, _, d1⟩, ⟨12, _, _, _, d2⟩, ⟨13, _, _, _, d3⟩, ⟨14, _, _, _, d4⟩, ⟨15, _, _, _, d5⟩] [] (by kernel_rfl) (by simp) fun K hK => ?_; simp (disch := omega) only [kc, slM, tZ, slZ, decF, tR, CItem.a, prep1, Nat.reduceAdd, opS_indexAddr, effR, natOf_pos, ty_slice50, ty_sz122, ifT, g1, packT, ty_agg122, opS_call, newS, effA, List.find?_cons, evAll, norm, CallRes.plain, rawTV, rawAV, normOk, noRefTV, noRefAV, renTV, renAV, effM, ofConst, Value.oneCell', evBin, wrapI, Nat.reduceBEq, isPure, ty_slice122, g2, ty_sz79, opS_store, wrS, effD, lc_get, fZ, g3, cellsOf, Nat.le_refl, putCells, mxr_set, killTV, killAV]; (with_reducible refine hK _ ?_))
            refine WpA.weak ((Weak_sub (tm := [jk, jk, jk, jk, jk, jk, .one (.sl 18 0 0 n), jk, jk, jk, jk, jk, jk, jk, jk, jk, jk, jk, jk, jk, jk, jk, jk, jk, jk, jk, jk, jk, jk, jk, jk, jk, jk, jk, jk, jk, jk, jk, jk, jk, jk, jk, jk, jk, jk, jk, jk, jk, jk, jk, jk, jk, jk, jk, jk, jk, jk, jk, jk, jk, jk, jk, jk, jk, jk, jk, jk, jk, jk, jk, jk, jk, jk, jk, jk, jk, jk, jk, jk, jk, jk, jk, jk]) (l := [(18, mxF 18 n n (upd idF j i cc))]) ⟨rfl, trivial⟩ (by simp [wkL, okTV, okAV])).trans ((Weak_fz 18 (fzOk_mx rfl)).trans (Weak_sub (tm := [jk, jk, jk, jk, jk, jk, slM (mat n n (upd idF j i cc)), jk, jk, jk, jk, jk, jk, jk, jk, jk, jk, jk, jk, jk, jk, jk, jk, jk, jk, jk, jk, jk, jk, jk, jk, jk, jk, jk, jk, jk, jk, jk, jk, jk, jk, jk, jk, jk, jk, jk, jk, jk, jk, jk, jk, jk, jk, jk, jk, jk, jk, jk, jk, jk, jk, jk, jk, jk, jk, jk, jk, jk, jk, jk, jk, jk, jk, jk, jk, jk, jk, jk, jk, jk, jk, jk, jk]) (l := []) trivial (by
              simp [wkL, okTV, okAV]
              exact (fzM (H := Hm [(18, mxF 18 n n (upd idF j i cc))]) (d := 18) (n := n) (c := n) (f := upd idF j i cc) rfl).symm)))) ?_
            (refine WpA_sreg [] [] (by simp) fun K hK => ?_; simp (disch := omega) only [kc, prep1, Nat.reduceAdd, slM, Hm, ofConst, Value.oneCell']; (with_reducible refine hK _ ?_))
            (refine WpA_ret ⟨.inr rfl, ret_now rfl ?_ rfl⟩; simp (disch := omega) only [resA, Tryz.results61, resL, resOne, List.getElem?_cons_succ, List.getElem?_cons_zero, Option.bind_some, tvPair, Option.map_some])
    · have hin : i = n := by omega
      subst hin
      have hnx : scanF f i = none := by rw [hsc, Nat.sub_self]; rfl
      rw [hnx]
      (refine WpA_sreg [] [] (by simp) fun K hK => ?_; simp (disch := omega) only [kc, prep1, slM, slZ, Hm, effM, evBin, decF]; (with_reducible refine hK _ ?_))
      refine WpA_seq (WpA_cond rfl (fun h => by simp at h <;> omega) (fun _ => WpA_exit ?_))
      show WpA _ _ _ _
      (refine WpA_sreg [] [] (by simp) fun K hK => ?_; simp (disch := omega) only [kc, prep1, ofConst, Value.oneCell']; (with_reducible refine hK _ ?_))
      (refine WpA_ret ⟨.inr rfl, ret_now rfl ?_ rfl⟩; simp (disch := omega) only [resA, Tryz.results61, resL, resOne, List.getElem?_cons_succ, List.getElem?_cons_zero, Option.bind_some, tvPair, Option.map_some, stT])
end Go.Proofs.YtobnpabndpmabaaGreat
namespace Go.Proofs.YtobnpabndpmabaaGreat
open Go.RowKit
def stG (L : List Int) (i k : Nat) (s : (Nat → Nat → Int) × Nat) : (Nat → Nat → Int) × Nat := (upd (upd s.1 i k (Int.tmod (L.getD s.2 0) 3)) k i (Int.tmod (L.getD s.2 0) 3), nextAt L s.2)
def itK (L : List Int) (i : Nat) (s : (Nat → Nat → Int) × Nat) : Nat → (Nat → Nat → Int) × Nat
  | 0 => s
  | k + 1 => stG L i k (itK L i s k)
def itI (L : List Int) (s : (Nat → Nat → Int) × Nat) : Nat → (Nat → Nat → Int) × Nat
  | 0 => s
  | i + 1 => itK L i (itI L s i) i
theorem itK_le {L : List Int} {i : Nat} {s : (Nat → Nat → Int) × Nat} (h : s.2 ≤ L.length) : ∀ k, (itK L i s k).2 ≤ L.length
  | 0 => h
  | k + 1 => nextAt_le (itK_le h k)
theorem itI_le {L : List Int} {s : (Nat → Nat → Int) × Nat} (h : s.2 ≤ L.length) : ∀ i, (itI L s i).2 ≤ L.length
  | 0 => h
  | i + 1 => itK_le (itI_le h i) i
theorem upd_at (f : Nat → Nat → Int) (i j : Nat) (v : Int) : upd f i j v i j = v := by simp [upd]
set_option maxRecDepth 100000 in
set_option maxHeartbeats 8000000 in
theorem general_T (b : Nat) (L : List Int) (a n : Nat) (hL : I8 L) (ha : a ≤ L.length) (hn : n ≤ 8) :
    CallT Tryz.prog b 57 63 [tptr b, .raw (.int .i64 (n : Int))] (tcs L a) ⟨mxI 0 n n (itI L (dgF L a 6, adv L a n) n).1, .one (.sl 0 0 0 n)⟩ (tcs L (itI L (dgF L a 6, adv L a n) n).2) := by
  have c0 := diagonal_T b L a n 6 hL ha hn (by omega) (by omega)
  rw [show ((6 : Nat) : Int) = 6 from rfl] at c0
  have hp0 : (dgF L a 6, adv L a n).2 ≤ L.length := adv_le ha n
  refine callT_of Tryz.func63 rfl (by kernel_rfl) ?_; rw [Tryz.ntmps63]
  (refine WpT_sreg [] [] (by simp) fun K hK => ?_; simp (disch := omega) only [kc, prep1, tptr, Nat.reduceAdd, List.replicate, ofConst, Value.oneCell']; (with_reducible refine hK _ ?_))
  (refine WpT_slent 2 c0 [] [] (by kernel_rfl) (by rfl) (by rfl) (by simp) fun K hK => ?_; simp (disch := omega) only [kc, tptr, prep1, Nat.reduceAdd, opS_call, newS, effA, List.find?_cons, evAll, ofConst, Value.oneCell', norm, CallRes.plain, List.isEmpty_cons, rawTV, rawAV, normOk, Bool.not_false, noRefTV, noRefAV, Bool.or_false, renTV, renAV, renO]; (with_reducible refine hK _ ?_))
  (refine WpT_seq (WpT_sreg [] [] (by simp) fun K hK => ?_); simp (disch := omega) only [kc, prep1, Nat.reduceAdd, opS_len, effR, ty_slice26, ofConst, Value.oneCell']; (with_reducible refine hK _ ?_))
  refine WpT_forb (G := FiG n) (fun g => ⟨[tptr b, jk, jk, jk, jk, .one (.sl 10 0 0 n), jk, jk, jk, jk, jk, jk, .raw (.int .i64 (n : Int)), .raw (.int .i64 (g.i : Int)), jk, jk, jk, jk, jk, jk, jk, jk, jk, jk, jk, jk, jk, jk, jk, jk, jk, jk, jk, jk, jk, jk, jk, jk, jk, jk, jk, jk, jk, jk, jk], Hm [(10, mxI 10 n n (itI L (dgF L a 6, adv L a n) g.i).1)]⟩) (fun g => tcs L (itI L (dgF L a 6, adv L a n) g.i).2) (fun g => n - g.i) ⟨0, by omega⟩ ?_ rfl ?_
  · refine Weak_sub ⟨?_, trivial⟩ ?_
    · exact mxI_ren 0 10 n n _
    · simp [wkL, okTV, okAV]
  · rintro ⟨i, hi⟩
    simp only
    have hpi := itI_le hp0 i
    by_cases hm : i < n
    · (refine WpT_sreg [] [] (by simp) fun K hK => ?_; simp (disch := omega) only [kc, prep1, tptr, Hm, effM, evBin, decT]; (with_reducible refine hK _ ?_))
      refine WpT_seq (WpT_cond rfl (fun _ => WpT_skip ?_) (fun h => by simp at h <;> omega))
      refine WpT_seq (WpT_block ?_)
      (refine WpT_sreg [] [] (by simp) fun K hK => ?_; simp (disch := omega) only [kc, prep1]; (with_reducible refine hK _ ?_))
      (refine WpT_sreg [] [] (by simp) fun K hK => ?_; simp (disch := omega) only [kc, prep1, ofConst, Value.oneCell']; (with_reducible refine hK _ ?_))
      refine WpT_forb (G := FiG i) (fun g => ⟨[tptr b, jk, jk, jk, jk, .one (.sl 10 0 0 n), .raw (.int .i64 (i : Int)), .raw (.int .i64 (g.i : Int)), jk, jk, jk, jk, .raw (.int .i64 (n : Int)), .raw (.int .i64 (i : Int)), jk, jk, jk, jk, jk, jk, jk, jk, jk, jk, jk, jk, jk, jk, jk, jk, jk, jk, jk, jk, jk, jk, jk, jk, jk, jk, jk, jk, jk, jk, jk], Hm [(10, mxI 10 n n (itK L i (itI L (dgF L a 6, adv L a n) i) g.i).1)]⟩) (fun g => tcs L (itK L i (itI L (dgF L a 6, adv L a n) i) g.i).2) (fun g => i - g.i) ⟨0, by omega⟩ ?_ rfl ?_
      · refine Weak_sub ⟨rfl, trivial⟩ ?_
        simp [wkL, okTV, okAV]
      · rintro ⟨k, hk⟩
        simp only
        have hpk := itK_le (i := i) hpi k
        by_cases hm2 : k < i
        · have hst : itK L i (itI L (dgF L a 6, adv L a n) i) (k + 1) = stG L i k (itK L i (itI L (dgF L a 6, adv L a n) i) k) := rfl
          generalize itK L i (itI L (dgF L a 6, adv L a n) i) k = s at *
          obtain ⟨f, p⟩ := s
          simp only at hpk ⊢
          have c1 := Next_T b L p hL hpk
          have hb := hL.getD p
          have a1 := spn_get (n := n) (i := i) 10 n hm
          have a2 := spn_get (n := n) (i := k) 10 n (by omega)
          have a3 := mxIr_get n f hm
          have a5 := rowF_get (f i) (show k < n by omega)
          have hst2 : stG L i k (f, p) = (upd (upd f i k (Int.tmod (L.getD p 0) 3)) k i (Int.tmod (L.getD p 0) 3), nextAt L p) := rfl
          obtain ⟨v, hv⟩ : ∃ v, Int.tmod (L.getD p 0) 3 = v := ⟨_, rfl⟩
          rw [hv] at hst2
          have a6 := mxIr_get n (upd f i k v) hm
          have a7 := mxIr_get n (upd f i k v) (show k < n by omega)
          have a8 : (rowF n (upd f i k v i))[k]? = some v := by rw [rowF_get _ (by omega), upd_at]
          have a9 := rowF_get (upd f i k v k) hm
          (refine WpT_seq (WpT_sreg [] [] (by simp) fun K hK => ?_); simp (disch := omega) only [kc, prep1, Nat.reduceAdd, tptr, Hm, effM, evBin, decT]; (with_reducible refine hK _ ?_))
          refine WpT_cond rfl (fun _ => WpT_skip ?_) (fun h => by simp at h <;> omega)
          refine WpT_seq (WpT_block ?_)
          (refine WpT_sldraw mixedA 6 c1 [] [] (by kernel_rfl) (by kernel_rfl) (by rfl) (by rfl) (by simp) fun K hK => ?_; simp (disch := omega) only [kc, tptr, prep1, Nat.reduceAdd, opS_indexAddr, effR, natOf_pos, ty_slice26, ty_sz29, ifT, a1, packT, ty_agg29, opS_call, newS, effA, List.find?_cons, evAll, norm, CallRes.plain, rawTV, rawAV, normOk, noRefTV, noRefAV, renTV, renAV, effM, ofConst, Value.oneCell', evBin, hv, ty_slice29, a3, ty_sz2, opS_store, wrS, effD, lc_get, fI, a5, cellsOf, Nat.le_refl, isPure, putCells, mxIr_set, killTV, killAV]; (with_reducible refine hK _ ?_))
          ((refine WpT_ldraw mixedA [] [] (by kernel_rfl) (by simp) fun K hK => ?_); simp (disch := omega) only [kc, prep1, Nat.reduceAdd, opS_indexAddr, effR, natOf_pos, ty_slice26, updH, ifF, ty_sz29, ifT, a2, packT, ty_agg29, a1, ty_slice29, a6, ty_sz2, lc_get, fI, a8, ty_agg2, a7, opS_store, wrS, effD, a9, cellsOf, Nat.le_refl, isPure, putCells, mxIr_set, killTV, killAV]; (with_reducible refine hK _ ?_))
          show WpT _ _ _ _ _ _ _
          ((refine WpT_lreg [] [] (by simp) fun K hK => ?_); simp (disch := omega) only [kc, prep1, Nat.reduceAdd, effM, ofConst, Value.oneCell', evBin, wrapI]; (with_reducible refine hK _ ?_))
          refine ⟨⟨k + 1, by omega⟩, by simp only; omega, Weak_sub ⟨?_, trivial⟩ ?_, ?_⟩
          · rw [hst, hst2]; rfl
          · simp [wkL, okTV, okAV]
          · simp only; rw [hst, hst2]
        · have hki : k = i := by omega
          subst hki
          (refine WpT_seq (WpT_sreg [] [] (by simp) fun K hK => ?_); simp (disch := omega) only [kc, prep1, Nat.reduceAdd, tptr, Hm, effM, evBin, decF]; (with_reducible refine hK _ ?_))
          refine WpT_cond rfl (fun h => by simp at h <;> omega) (fun _ => WpT_exit ?_)
          show WpT _ _ _ _ _ _ _
          ((refine WpT_lreg [] [] (by simp) fun K hK => ?_); simp (disch := omega) only [kc, prep1, effM, ofConst, Value.oneCell', evBin, wrapI]; (with_reducible refine hK _ ?_))
          refine ⟨⟨k + 1, by omega⟩, by simp only; omega, Weak_sub ⟨rfl, trivial⟩ ?_, rfl⟩
          simp [wkL, okTV, okAV]
    · have hin : i = n := by omega
      subst hin
      (refine WpT_sreg [] [] (by simp) fun K hK => ?_; simp (disch := omega) only [kc, prep1, tptr, Hm, effM, evBin, decF]; (with_reducible refine hK _ ?_))
      refine WpT_seq (WpT_cond rfl (fun h => by simp at h <;> omega) (fun _ => WpT_exit ?_))
      show WpT _ _ _ _ _ _ _
      (refine WpT_sreg [] [] (by simp) fun K hK => ?_; simp (disch := omega) only [kc, prep1]; (with_reducible refine hK _ ?_))
      refine WpT_ret ⟨.inr rfl, rfl, _, Weak.refl _, ?_⟩
      refine ⟨.one (.sl 10 0 0 i), 10, ?_, rfl, ?_, rfl⟩
      · simp (disch := omega) only [resA, Tryz.results63, resOne, List.getElem?_cons_succ, List.getElem?_cons_zero]
      · exact (mxI_ren 10 0 _ _ _).symm
end Go.Proofs.YtobnpabndpmabaaGreat
namespace Go.Proofs.YtobnpabndpmabaaGreat
open Go.RowKit
def chk (fork : Bool) (n i : Nat) : Nat := if fork = true ∧ i + 1 = n ∧ 3 < n then i - 2 else i - 1
def chI (fork : Bool) (n : Nat) : Nat → Nat → Nat → Int
  | 0 => fun _ _ => 0
  | i + 1 => if i = 0 then upd (chI fork n i) i i 2 else upd (upd (upd (chI fork n i) i i 2) i (chk fork n i) (-1)) (chk fork n i) i (-1)
theorem chk_lt {fork : Bool} {n i : Nat} (h : 0 < i) : chk fork n i < i := by unfold chk; split <;> omega
theorem upd_ne {f : Nat → Nat → Int} {i j a b : Nat} {v : Int} (h : a ≠ i ∨ b ≠ j) : upd f i j v a b = f a b := by
  unfold upd
  by_cases h1 : a = i
  · subst h1
    have h2 : b ≠ j := by rcases h with h | h
                          · exact absurd rfl h
                          · exact h
    simp [h2]
  · simp [h1]
theorem chI_zero (fork : Bool) (n : Nat) : ∀ i a b, i ≤ a ∨ i ≤ b → chI fork n i a b = 0
  | 0, _, _, _ => rfl
  | i + 1, a, b, h => by
    have ih := chI_zero fork n i a b (by omega)
    unfold chI
    split
    · rw [upd_ne (by omega), ih]
    · rename_i h0
      have := chk_lt (fork := fork) (n := n) (show 0 < i by omega)
      rw [upd_ne (by omega), upd_ne (by omega), upd_ne (by omega), ih]
set_option maxRecDepth 100000 in
set_option maxHeartbeats 8000000 in
theorem chain_C (n : Nat) (fork : Bool) (hn : n ≤ 8) :
    CallC Tryz.prog 64 [.raw (.int .i64 (n : Int)), .raw (.bool fork)] ⟨mxI 0 n n (chI fork n n), .one (.sl 0 0 0 n)⟩ := by
  refine callC_of Tryz.func64 rfl (by kernel_rfl) ?_; rw [Tryz.ntmps64]
  (refine WpA_sreg [] [] (by simp) fun K hK => ?_; simp (disch := omega) only [kc, prep1, Nat.reduceAdd, List.replicate, ofConst, Value.oneCell']; (with_reducible refine hK _ ?_))
  (refine WpA_sreg [] [] (by simp) fun K hK => ?_; simp (disch := omega) only [kc, prep1, Nat.reduceAdd, opS_makeSlice, newS, effA, ty_slice26, ty_zero29, ty_sz29, ty_by29, Int.natCast_nonneg, Value.oneCell', and_true, ifT]; (with_reducible refine hK _ ?_))
  (refine WpA_seq (WpA_sreg [] [] (by simp) fun K hK => ?_); simp (disch := omega) only [kc, prep1, Nat.reduceAdd, opS_len, effR, ty_slice26, ofConst, Value.oneCell']; (with_reducible refine hK _ ?_))
  refine WpA_forb (G := FiG n) (fun g => ⟨[.raw (.int .i64 (n : Int)), .raw (.bool fork), jk, jk, jk, .one (.sl 9 0 0 n), jk, jk, jk, jk, jk, .raw (.int .i64 (n : Int)), .raw (.int .i64 (g.i : Int)), jk, jk, jk, jk, jk, jk, jk, jk, jk, jk, jk, jk, jk, jk, jk, jk, jk, jk, jk, jk, jk, jk, jk, jk, jk, jk, jk, jk, jk, jk, jk, jk, jk, jk, jk, jk, jk, jk, jk, jk, jk, jk, jk, jk], Hm [(9, kI 9 n n g.i (chI fork n g.i))]⟩) (fun g => n - g.i) ⟨0, by omega⟩ ?_ ?_
  · refine Weak_sub ⟨?_, trivial⟩ ?_
    · show [_] = _
      simp [spn, mat]
    · simp [wkL, okTV, okAV]
  · rintro ⟨i, hi⟩
    simp only
    by_cases hm : i < n
    · have k1 := kI_nil (i := i) (n := n) 9 n hm
      have k2 := kI_len (i := i) (n := n) 9 n hi
      have k3 := mat_len i n (chI fork n i)
      have k4 := kI_make (i := i) (n := n) (c := n) 9 (chI fork n i) hm (fun j hj => chI_zero fork n i i j (by omega))
      have k5 := kI_get (i := i + 1) (k := i) (n := n) 9 n (by omega)
      have k6 := kI_len (i := i + 1) (n := n) 9 n (by omega)
      have k7 := mxIr_get (n := i + 1) n (chI fork n i) (i := i) (by omega)
      have k8 := rowF_get (chI fork n i i) hm
      have hstep : chI fork n (i + 1) = if i = 0 then upd (chI fork n i) i i 2 else upd (upd (upd (chI fork n i) i i 2) i (chk fork n i) (-1)) (chk fork n i) i (-1) := rfl
      generalize chI fork n i = f at *
      (refine WpA_sreg [] [] (by simp) fun K hK => ?_; simp (disch := omega) only [kc, prep1, Hm, effM, evBin, decT]; (with_reducible refine hK _ ?_))
      refine WpA_seq (WpA_cond rfl (fun _ => WpA_skip ?_) (fun h => by simp at h <;> omega))
      refine WpA_seq (WpA_block ?_)
      (refine WpA_sreg [] [] (by simp) fun K hK => ?_; simp (disch := omega) only [kc, prep1]; (with_reducible refine hK _ ?_))
      (refine WpA_sreg [] [] (by simp) fun K hK => ?_; simp (disch := omega) only [kc, prep1, Nat.reduceAdd, opS_makeSlice, newS, effA, ty_slice29, ty_zero2, ty_sz2, ty_by2, Int.natCast_nonneg, Value.oneCell', and_true, ifT, Nat.reduceEqDiff, opS_indexAddr, effR, natOf_pos, ty_slice26, updH, ty_sz29, opS_store, wrS, effD, k1, putCells, ifF, List.length_replicate, List.all_replicate, isPure, List.length_map, k3, killTV, killAV, Nat.reduceBEq]; (with_reducible refine hK _ ?_))
      refine WpA.weak (Weak_sub (tm := [.raw (.int .i64 (n : Int)), .raw (.bool fork), jk, jk, jk, .one (.sl 9 0 0 n), .raw (.int .i64 (i : Int)), jk, jk, jk, jk, .raw (.int .i64 (n : Int)), .raw (.int .i64 (i : Int)), jk, jk, jk, jk, jk, jk, jk, jk, jk, jk, jk, jk, jk, jk, jk, jk, jk, jk, jk, jk, jk, jk, jk, jk, jk, jk, jk, jk, jk, jk, jk, jk, jk, jk, jk, jk, jk, jk, jk, jk, jk, jk, jk, jk]) (l := [(9, kI 9 n n (i + 1) f)]) ⟨?_, trivial⟩ (by simp [wkL, okTV, okAV])) ?_
      · first | exact k4 | rfl
      (refine WpA_sreg [] [] (by simp) fun K hK => ?_; simp (disch := omega) only [kc, prep1, Nat.reduceAdd, Hm, opS_indexAddr, effR, natOf_pos, ty_slice26, ty_sz29, ifT, k5, packT, ty_agg29, ty_slice29, k7, ty_sz2, opS_store, wrS, effD, lc_get, fI, k8, ofConst, Value.oneCell', cellsOf, Nat.le_refl, isPure, putCells, mxIr_set, killTV, killAV]; (with_reducible refine hK _ ?_))
      (refine WpA_sreg [] [] (by simp) fun K hK => ?_; simp (disch := omega) only [kc, prep1, Nat.reduceAdd, effM, ofConst, Value.oneCell', evBin, wrapI]; (with_reducible refine hK _ ?_))
      obtain ⟨kz, hkz⟩ : ∃ kz : Int, kz = if fork = true ∧ i + 1 = n ∧ 3 < n then (i : Int) - 2 else (i : Int) - 1 := ⟨_, rfl⟩
      refine WpA_seq (WpA_cut (S := ⟨[.raw (.int .i64 (n : Int)), .raw (.bool fork), jk, jk, jk, .one (.sl 9 0 0 n), .raw (.int .i64 (i : Int)), .raw (.int .i64 kz), jk, jk, jk, .raw (.int .i64 (n : Int)), .raw (.int .i64 (i : Int)), jk, jk, jk, jk, jk, jk, jk, jk, jk, jk, jk, jk, jk, jk, jk, jk, jk, jk, jk, jk, jk, jk, jk, jk, jk, jk, jk, jk, jk, jk, jk, jk, jk, jk, jk, jk, jk, jk, jk, jk, jk, jk, jk, jk], Hm [(9, kI 9 n n (i + 1) (upd f i i 2))]⟩) ?_ ?_)
      · cases fork with
        | false =>
          rw [if_neg (by simp)] at hkz
          (refine WpA_sreg [] [] (by simp) fun K hK => ?_; simp (disch := omega) only [kc, prep1, Nat.reduceAdd, stS_guard, effM, ofConst, Value.oneCell', Option.map_none, opS_pick]; (with_reducible refine hK _ ?_))
          refine WpA_cond rfl (fun h => by simp at h) (fun _ => WpA_skip ?_)
          show Weak _ _
          refine Weak_sub ⟨rfl, trivial⟩ ?_
          simp [wkL, okTV, okAV, hkz]
        | true =>
          by_cases h1 : i + 1 = n
          · by_cases h2 : 3 < n
            · rw [if_pos ⟨rfl, h1, h2⟩] at hkz
              (refine WpA_sreg [] [] (by simp) fun K hK => ?_; simp (disch := omega) only [kc, prep1, Nat.reduceAdd, stS_guard, effM, ofConst, Value.oneCell', ifT, evBin, wrapI, decT, opS_pick]; (with_reducible refine hK _ ?_))
              refine WpA_cond rfl (fun _ => ?_) (fun h => by simp at h <;> omega)
              ((refine WpA_lreg [] [] (by simp) fun K hK => ?_); simp (disch := omega) only [kc, prep1, Nat.reduceAdd, effM, ofConst, Value.oneCell', evBin, wrapI]; (with_reducible refine hK _ ?_))
              refine Weak_sub ⟨rfl, trivial⟩ ?_
              simp [wkL, okTV, okAV, hkz]
            · rw [if_neg (by omega)] at hkz
              (refine WpA_sreg [] [] (by simp) fun K hK => ?_; simp (disch := omega) only [kc, prep1, Nat.reduceAdd, stS_guard, effM, ofConst, Value.oneCell', ifT, evBin, wrapI, decT, opS_pick, decF]; (with_reducible refine hK _ ?_))
              refine WpA_cond rfl (fun h => by simp at h <;> omega) (fun _ => WpA_skip ?_)
              show Weak _ _
              refine Weak_sub ⟨rfl, trivial⟩ ?_
              simp [wkL, okTV, okAV, hkz]
          · rw [if_neg (by omega)] at hkz
            (refine WpA_sreg [] [] (by simp) fun K hK => ?_; simp (disch := omega) only [kc, prep1, Nat.reduceAdd, stS_guard, effM, ofConst, Value.oneCell', ifT, evBin, wrapI, decF, opS_pick, Option.map_none]; (with_reducible refine hK _ ?_))
            refine WpA_cond rfl (fun h => by simp at h <;> omega) (fun _ => WpA_skip ?_)
            show Weak _ _
            refine Weak_sub ⟨rfl, trivial⟩ ?_
            simp [wkL, okTV, okAV, hkz]
      · by_cases h0 : i = 0
        · subst h0
          rw [if_neg (by omega)] at hkz
          rw [if_pos rfl] at hstep
          (refine WpA_sreg [] [] (by simp) fun K hK => ?_; simp (disch := omega) only [kc, prep1, Hm, effM, ofConst, Value.oneCell', evBin, decF]; (with_reducible refine hK _ ?_))
          refine WpA_cond rfl (fun h => by simp at h <;> omega) (fun _ => WpA_skip ?_)
          show WpA _ _ _ _
          ((refine WpA_lreg [] [] (by simp) fun K hK => ?_); simp (disch := omega) only [kc, prep1, effM, ofConst, Value.oneCell', evBin, wrapI]; (with_reducible refine hK _ ?_))
          refine ⟨⟨1, by omega⟩, by simp only; omega, Weak_sub ⟨?_, trivial⟩ ?_⟩
          · simp only [hstep]; rfl
          · simp [wkL, okTV, okAV]
        · have hkk : kz = ((chk fork n i : Nat) : Int) := by
            rw [hkz]; unfold chk
            split <;> omega
          have hlt := chk_lt (fork := fork) (n := n) (show 0 < i by omega)
          rw [if_neg h0] at hstep
          subst hkk
          generalize chk fork n i = k at *
          generalize upd f i i 2 = f2 at *
          have b1 := kI_get (i := i + 1) (k := k) (n := n) 9 n (by omega)
          have b2 := mxIr_get (n := i + 1) n f2 (i := i) (by omega)
          have b3 := rowF_get (f2 i) (show k < n by omega)
          have b4 := mxIr_get (n := i + 1) n (upd f2 i k (-1)) (i := k) (by omega)
          have b5 := rowF_get (upd f2 i k (-1) k) hm
          (refine WpA_sreg [] [] (by simp) fun K hK => ?_; simp (disch := omega) only [kc, prep1, Hm, effM, ofConst, Value.oneCell', evBin, Int.natCast_nonneg, decT]; (with_reducible refine hK _ ?_))
          refine WpA_cond rfl (fun _ => ?_) (fun h => by simp at h <;> omega)
          ((refine WpA_ldraw mixedA [] [] (by kernel_rfl) (by simp) fun K hK => ?_); simp (disch := omega) only [kc, prep1, Nat.reduceAdd, opS_indexAddr, effR, natOf_pos, ty_slice26, ty_sz29, ifT, k5, packT, ty_agg29, b1, ty_slice29, b2, ty_sz2, opS_store, wrS, effD, lc_get, fI, b3, ofConst, Value.oneCell', cellsOf, Nat.le_refl, isPure, putCells, mxIr_set, killTV, killAV, updH, ifF, b4, b5]; (with_reducible refine hK _ ?_))
          show WpA _ _ _ _
          ((refine WpA_lreg [] [] (by simp) fun K hK => ?_); simp (disch := omega) only [kc, prep1, effM, ofConst, Value.oneCell', evBin, wrapI]; (with_reducible refine hK _ ?_))
          refine ⟨⟨i + 1, by omega⟩, by simp only; omega, Weak_sub ⟨?_, trivial⟩ ?_⟩
          · simp only [hstep]; rfl
          · simp [wkL, okTV, okAV]
    · have hin : i = n := by omega
      subst hin
      (refine WpA_sreg [] [] (by simp) fun K hK => ?_; simp (disch := omega) only [kc, prep1, Hm, effM, evBin, decF]; (with_reducible refine hK _ ?_))
      refine WpA_seq (WpA_cond rfl (fun h => by simp at h <;> omega) (fun _ => WpA_exit ?_))
      show WpA _ _ _ _
      rw [kI_end]
      (refine WpA_sreg [] [] (by simp) fun K hK => ?_; simp (disch := omega) only [kc, prep1]; (with_reducible refine hK _ ?_))
      refine WpA_ret ⟨.inr rfl, _, Weak.refl _, ?_⟩
      refine ⟨.one (.sl 9 0 0 i), 9, ?_, rfl, ?_, rfl⟩
      · simp (disch := omega) only [resA, Tryz.results64, resOne, List.getElem?_cons_succ, List.getElem?_cons_zero]
      · exact (mxI_ren 9 0 _ _ _).symm
def GoodP (n : Nat) (f : Nat → Nat → Int) : Prop := SymF f n ∧ PosF f n ∧ detF n f ≤ 10000
set_option maxRecDepth 100000 in
set_option maxHeartbeats 8000000 in
theorem good_C (n : Nat) (f : Nat → Nat → Int) (hn1 : 1 ≤ n) (hn : n ≤ 8) (hf : ∀ i j : Nat, I64 (f i j)) (r : Bool) (hr : r = true ↔ GoodP n f) : CallC Tryz.prog 66 [slI (mat n n f)] ⟨[], .raw (.bool r)⟩ := by
  have c1 := Of_C n n f hn1 (by omega) hn1 (by omega) (fun i j _ _ => hf i j)
  obtain ⟨e, he, c2⟩ := Validate_C n n f hn1 (by omega) hn1 (by omega) (fun i j _ _ => (hf i j).sz (by omega))
  by_cases h1 : e = 0
  · obtain ⟨_, _, hs, hp⟩ := he.1 h1
    subst h1
    have c3 := Determinant_C n f hn1 (by omega) (fun i j _ _ => (hf i j).sz (by omega))
    have c4 := small_C 10000 (by omega) (by omega)
    have c5 := Cmp_C (detF n f) 10000 ((detF_sz (n := n) (by omega) (fun i j _ _ => (hf i j).sz (by omega))).mono (by omega)) (sz_lt (by decide) (by omega))
    have hle := cmpZ_le (detF n f) 10000
    have hrr : r = decide (detF n f ≤ 10000) := by
      cases r with
      | true => have := (hr.1 rfl).2.2; simp [this]
      | false =>
        have : ¬ detF n f ≤ 10000 := fun h => by have := hr.2 ⟨hs, hp, h⟩; cases this
        simp [this]
    rw [hrr]
    generalize detF n f = d at *
    refine callC_of Tryz.func66 rfl (by kernel_rfl) ?_; rw [Tryz.ntmps66]
    (refine WpA_sreg [] [] (by simp) fun K hK => ?_; simp (disch := omega) only [kc, prep1, slI, List.replicate, ofConst, Value.oneCell']; (with_reducible refine hK _ ?_))
    (refine WpA_sreg [⟨1, _, _, _, c1⟩] [] (by simp) fun K hK => ?_; simp (disch := omega) only [kc, slI, slM, CItem.a, prep1, Nat.reduceAdd, opS_call, newS, effA, List.find?_cons, evAll, norm, CallRes.plain, rawTV, rawAV, normOk, noRefTV, noRefAV, renTV, renAV]; (with_reducible refine hK _ ?_))
    (refine WpA_sreg [⟨1, _, _, _, c2⟩, ⟨5, _, _, _, c3⟩, ⟨6, _, _, _, c4⟩, ⟨7, _, _, _, c5⟩] [] (by simp) fun K hK => ?_; simp (disch := omega) only [kc, slM, tZ, decF, CItem.a, prep1, Nat.reduceAdd, opS_call, newS, effA, List.find?_cons, evAll, norm, CallRes.plain, rawTV, rawAV, normOk, noRefTV, noRefAV, renTV, renAV, effM, ofConst, Value.oneCell', evBin, decT, stS_guard, Nat.reduceBEq, ifT, isPure, hle, opS_pick]; (with_reducible refine hK _ ?_))
    (refine WpA_ret ⟨.inr rfl, ret_now rfl ?_ rfl⟩; simp (disch := omega) only [resA, Tryz.results66, resOne, List.getElem?_cons_succ, List.getElem?_cons_zero])
  · have hr0 : r = false := by
      cases r with
      | false => rfl
      | true => have := hr.1 rfl; exact absurd (he.2 ⟨rfl, hn, this.1, this.2.1⟩) h1
    subst hr0
    refine callC_of Tryz.func66 rfl (by kernel_rfl) ?_; rw [Tryz.ntmps66]
    (refine WpA_sreg [] [] (by simp) fun K hK => ?_; simp (disch := omega) only [kc, prep1, slI, List.replicate, ofConst, Value.oneCell']; (with_reducible refine hK _ ?_))
    (refine WpA_sreg [⟨1, _, _, _, c1⟩] [] (by simp) fun K hK => ?_; simp (disch := omega) only [kc, slI, slM, CItem.a, prep1, Nat.reduceAdd, opS_call, newS, effA, List.find?_cons, evAll, norm, CallRes.plain, rawTV, rawAV, normOk, noRefTV, noRefAV, renTV, renAV]; (with_reducible refine hK _ ?_))
    (refine WpA_sreg [⟨1, _, _, _, c2⟩] [] (by simp) fun K hK => ?_; simp (disch := omega) only [kc, slM, CItem.a, prep1, Nat.reduceAdd, opS_call, newS, effA, List.find?_cons, evAll, norm, CallRes.plain, rawTV, rawAV, normOk, noRefTV, noRefAV, renTV, renAV, effM, ofConst, Value.oneCell', evBin, decF, stS_guard, Nat.reduceBEq, List.find?_nil, Option.map_none, opS_pick]; (with_reducible refine hK _ ?_))
    (refine WpA_ret ⟨.inr rfl, ret_now rfl ?_ rfl⟩; simp (disch := omega) only [resA, Tryz.results66, resOne, List.getElem?_cons_succ, List.getElem?_cons_zero])
end Go.Proofs.YtobnpabndpmabaaGreat
