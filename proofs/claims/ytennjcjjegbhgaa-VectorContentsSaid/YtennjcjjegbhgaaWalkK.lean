/-
  The walk of slices.CompactFunc at keyed values.
-/
import Derived.Test.YtennjcjjegbhgaaWalkJ
namespace Go.Proofs.Ytennjcjjegbhgaa
open Go.RowKit

/-- Block g holds the items of L, two cells each. -/
def Lst (w : World) (g N : Nat) (L : List Item) : Prop :=
  ∃ f, w.rowIs g 59 N f ∧ L.length * 2 ≤ N ∧ ∀ j it, L[j]? = some it → f (j * 2) = .int .i64 it.key ∧ f (j * 2 + 1) = it.val
theorem Lst.ext {w w' : World} {g N : Nat} {L : List Item} (h : Lst w g N L) (e : Ext w w') : Lst w' g N L := by
  obtain ⟨f, h1, h2, h3⟩ := h
  exact ⟨f, rowIs_ext h1 e, h2, h3⟩
theorem Lst.cell0 {w : World} {g N : Nat} {L : List Item} (h : Lst w g N L) {j : Nat} {it : Item} (hj : L[j]? = some it) : w.cell? ⟨g, j * 2, none⟩ = some (.int .i64 it.key) := by
  obtain ⟨f, h1, h2, h3⟩ := h
  have := (List.getElem?_eq_some_iff.1 hj).1
  rw [h1.cell (by omega), (h3 j it hj).1]
theorem Lst.cell1 {w : World} {g N : Nat} {L : List Item} (h : Lst w g N L) {j : Nat} {it : Item} (hj : L[j]? = some it) : w.cell? ⟨g, j * 2 + 1, none⟩ = some (.slice it.at_ it.vals.length it.cap) := by
  obtain ⟨f, h1, h2, h3⟩ := h
  have := (List.getElem?_eq_some_iff.1 hj).1
  rw [h1.cell (by omega), (h3 j it hj).2]; rfl
theorem Lst.frozen {w : World} {g N : Nat} {L : List Item} (h : Lst w g N L) (j : Nat) : w.frozen? ⟨g, j, none⟩ = false := by
  obtain ⟨f, h1, h2, h3⟩ := h
  exact h1.frozen j
theorem Lst.set {w : World} {g N : Nat} {L : List Item} (h : Lst w g N L) {i : Nat} (hi : i < L.length) (it : Item) :
    Lst ((w.setCell ⟨g, i * 2, none⟩ (.int .i64 it.key)).setCell ⟨g, i * 2 + 1, none⟩ (.slice it.at_ it.vals.length it.cap)) g N (L.set i it) := by
  obtain ⟨f, h1, h2, h3⟩ := h
  refine ⟨_, (h1.set (i * 2) _).set (i * 2 + 1) _, by simpa using h2, fun j it' hj => ?_⟩
  rw [List.getElem?_set] at hj
  by_cases e : i = j
  · subst e
    rw [if_pos rfl, if_pos hi] at hj
    cases hj
    constructor
    · rw [if_neg (by omega), if_pos rfl]
    · rw [if_pos rfl]; rfl
  · rw [if_neg e] at hj
    obtain ⟨q1, q2⟩ := h3 j it' hj
    constructor
    · rw [if_neg (by omega), if_neg (by omega), q1]
    · rw [if_neg (by omega), if_neg (by omega), q2]
/-- The first items stay where the cells behind them turn. -/
theorem Lst.take {w : World} {g N : Nat} {L : List Item} (h : Lst w g N L) (i : Nat) : Lst w g N (L.take i) := by
  obtain ⟨f, h1, h2, h3⟩ := h
  refine ⟨f, h1, by rw [List.length_take]; omega, fun j it hj => ?_⟩
  rw [List.getElem?_take] at hj
  split at hj
  · exact h3 j it hj
  · cases hj

theorem setCells_row {g t N : Nat} : ∀ (vs : List Value) (o : Nat) (w : World) (f : Nat → Value), w.rowIs g t N f → ∃ f', (w.setCells g o vs).rowIs g t N f' ∧ (∀ j, j < o → f' j = f j) ∧ ∀ k, k ≠ g → (w.setCells g o vs).heap[k]? = w.heap[k]?
  | [], o, w, f, h => ⟨f, h, fun _ _ => rfl, fun _ _ => rfl⟩
  | v :: r, o, w, f, h => by
    obtain ⟨f', h1, h2, h3⟩ := setCells_row r (o + 1) (w.setCell ⟨g, o, none⟩ v) _ (h.set o v)
    refine ⟨f', h1, fun j hj => ?_, fun k hk => ?_⟩
    · rw [h2 j (by omega), if_neg (by omega)]
    · show ((w.setCell ⟨g, o, none⟩ v).setCells g (o + 1) r).heap[k]? = _
      rw [h3 k hk, Below.heap_setCell _ _ _ _ hk]

/-- What CompactFunc keeps behind prev: the elements that differ from the one ahead of them. -/
def compGo (prev : Item) : List Item → List Item
  | [] => []
  | b :: l => if eqIt b prev then compGo b l else b :: compGo b l
def compact : List Item → List Item
  | [] => []
  | a :: l => a :: compGo a l

theorem run_clear_agg {P : Program} (w : World) (t e ty : TypeId) (z : Value) (ht : P.underlying t = some (.slice e)) (hv : ∀ w, (zeroValue e).run P w = .ok z w) (h1 : ∀ v ∈ z.cells, v.oneCell' = true) (hz : 0 < z.cells.size) (b o n c : Nat) (hn : 0 < n)
    (hc : ∀ j, j < n * z.cells.size → (w.cell? ⟨b, o + j, none⟩).isSome = true) (hf : ∀ j, j < n * z.cells.size → w.frozen? ⟨b, o + j, none⟩ = false) :
    (Builtin.clear_ #[t] ty #[.slice (some ⟨b, o, none⟩) n c]).run P w = .ok (.tuple #[]) (w.setCells b o (Builtin.zeroCells z.cells n).toList) := by
  have hlen : (Builtin.zeroCells z.cells n).toList.length = n * z.cells.size := by simp [Builtin.zeroCells]
  have hst := run_storeCells_cells (P := P) b o (Builtin.zeroCells z.cells n).toList 0 w (by rw [hlen]; simpa using hc) (by rw [hlen]; simpa using hf) (by
    intro v hv'
    simp [Builtin.zeroCells] at hv'
    obtain ⟨k, _, rfl⟩ := hv'
    have hlt : k % z.cells.size < z.cells.size := Nat.mod_lt _ hz
    rw [getElem!_pos z.cells _ hlt]
    exact h1 _ (Array.getElem_mem hlt))
  simp only [Nat.add_zero] at hst
  obtain ⟨m, rfl⟩ : ∃ m, n = m + 1 := ⟨n - 1, by omega⟩
  simp [Builtin.clear_, run_underlying ht, hv, hst]

/-- Only block g and what is new has turned. -/
theorem gb_of_ext {w w' : World} (h : Ext w w') (g : Nat) : w.grownBy w' (some g) := ⟨h.os, h.tape, h.output, h.size, fun k hk _ => h.block k hk⟩
theorem gb_trans {a b c : World} {g : Nat} (h : a.grownBy b (some g)) (k : b.grownBy c (some g)) : a.grownBy c (some g) :=
  ⟨k.os.trans h.os, k.tape.trans h.tape, k.output.trans h.output, Nat.le_trans h.size k.size, fun i hi hne => (k.block i (Nat.lt_of_lt_of_le hi h.size) hne).trans (h.block i hi hne)⟩
theorem gb_set {a b : World} {g : Nat} (h : a.grownBy b (some g)) (o : Nat) (v : Value) : a.grownBy (b.setCell ⟨g, o, none⟩ v) (some g) :=
  gb_trans h ⟨rfl, rfl, rfl, by simp [World.setCell], fun k _ hne => Below.heap_setCell _ _ _ _ (fun e => hne (by rw [e]))⟩
theorem gb_setCells {a b : World} {g : Nat} : ∀ (vs : List Value) (o : Nat) {b : World}, a.grownBy b (some g) → a.grownBy (b.setCells g o vs) (some g)
  | [], _, _, h => h
  | v :: r, o, _, h => gb_setCells (b := b) r (o + 1) (gb_set h o v)
theorem gb_cell {w w' : World} {g : Nat} (h : w.grownBy w' (some g)) {p : Addr} {v : Value} (hp : w.cell? p = some v) (hne : p.block ≠ g) : w'.cell? p = some v :=
  h.cell hp (fun e => hne (by injection e))
theorem RdI.gb {k : IntKind} {w w' : World} {A : Option Addr} {zs : List Int} {g : Nat} (h : RdI k w A zs) (hne : ∀ p, A = some p → p.block ≠ g) (hg : w.grownBy w' (some g)) : RdI k w' A zs := fun hn => by
  obtain ⟨b, off, rfl, hc⟩ := h hn
  exact ⟨b, off, rfl, fun i x hx => gb_cell hg (hc i x hx) (show b ≠ g from hne ⟨b, off, none⟩ rfl)⟩
theorem ItemOk.gb {w w' : World} {g : Nat} {it : Item} (h : ItemOk w g it) (hg : w.grownBy w' (some g)) : ItemOk w' g it := ⟨h.rd.gb h.ne hg, h.ne, h.le⟩

theorem compGo_take {L : List Item} {k : Nat} {a : Item} (hQ : ∀ j a b, j + 1 < k + 1 → L[j + 1]? = some a → L[j]? = some b → eqIt a b = false) (hk : L[k]? = some a) : compact L = L.take (k + 1) ++ compGo a (L.drop (k + 1)) := by
  induction k generalizing a with
  | zero =>
    cases L with
    | nil => simp at hk
    | cons b l => simp at hk; subst hk; simp [compact]
  | succ k ih =>
    have hlt : k < L.length := by have := (List.getElem?_eq_some_iff.1 hk).1; omega
    obtain ⟨b, hb⟩ := getElem?_of_lt hlt
    have hlt2 := (List.getElem?_eq_some_iff.1 hk).1
    have e := hQ k a b (by omega) hk hb
    rw [ih (fun j a b h => hQ j a b (by omega)) hb]
    rw [List.drop_eq_getElem_cons hlt2]
    have e2 : L[k + 1] = a := (List.getElem?_eq_some_iff.1 hk).2
    rw [e2, compGo, e]
    have e3 : L.take (k + 1 + 1) = L.take (k + 1) ++ [a] := by rw [List.take_succ_eq_append_getElem hlt2, e2]
    rw [e3]
    simp
theorem compact_all {L : List Item} (hQ : ∀ j a b, j + 1 < L.length → L[j + 1]? = some a → L[j]? = some b → eqIt a b = false) : compact L = L := by
  cases hL : L with
  | nil => rfl
  | cons a l =>
    have hlen : 0 < L.length := by rw [hL]; simp
    obtain ⟨b, hb⟩ := getElem?_of_lt (l := L) (k := L.length - 1) (by omega)
    have := compGo_take (k := L.length - 1) (fun j a b h => hQ j a b (by omega)) hb
    rw [show L.length - 1 + 1 = L.length from by omega, List.take_length, List.drop_length] at this
    rw [hL] at this
    rw [this]; simp [compGo]
theorem compGo_eq {L : List Item} {m : Nat} {a b : Item} (ha : L[m + 1]? = some a) (e : eqIt a b = true) : compGo b (L.drop (m + 1)) = compGo a (L.drop (m + 1 + 1)) := by
  have hlt := (List.getElem?_eq_some_iff.1 ha).1
  rw [List.drop_eq_getElem_cons hlt, (List.getElem?_eq_some_iff.1 ha).2, compGo, if_pos e]
theorem compGo_ne {L : List Item} {m : Nat} {a b : Item} (ha : L[m + 1]? = some a) (e : eqIt a b = false) : compGo b (L.drop (m + 1)) = a :: compGo a (L.drop (m + 1 + 1)) := by
  have hlt := (List.getElem?_eq_some_iff.1 ha).1
  rw [List.drop_eq_getElem_cons hlt, (List.getElem?_eq_some_iff.1 ha).2, compGo, if_neg (by simp [e])]
theorem mem_at {L pre : List Item} {m : Nat} (h : pre.length ≤ m) : (pre ++ L.drop pre.length)[m]? = L[m]? := by
  rw [List.getElem?_append_right h, List.getElem?_drop, Nat.add_sub_cancel' h]
theorem mem_set {L pre : List Item} {a : Item} (h : pre.length < L.length) : (pre ++ L.drop pre.length).set pre.length a = (pre ++ [a]) ++ L.drop (pre ++ [a]).length := by
  have e : L.drop pre.length = L[pre.length] :: L.drop (pre.length + 1) := List.drop_eq_getElem_cons h
  rw [List.set_append_right _ _ (Nat.le_refl _), Nat.sub_self, e, List.set_cons_zero]
  simp

set_option maxRecDepth 100000 in
set_option maxHeartbeats 2000000 in
theorem compactFunc_any (g cap : Nat) (L : List Item) (bx sx so : Nat) (w : World) (hL : Lst w g (cap * 2) L) (hcap : L.length ≤ cap) (hlen : L.length ≤ 4611686018427387904)
    (hok : ∀ it ∈ L, ItemOk w g it) (h1 : w.cell? ⟨bx, 0, none⟩ = some (.pointer (some ⟨sx, so, none⟩))) (h2 : w.cell? ⟨sx, so + 1, none⟩ = some (.func (Fn.func 26) #[] #[])) (hbx : bx ≠ g) (hsx : sx ≠ g) :
    Calls Try.prog 39 #[.slice (some ⟨g, 0, none⟩) L.length cap, .func (Fn.func 40) #[] #[.pointer (some ⟨bx, 0, none⟩)]] w fun e w' =>
      e = .returned (.slice (some ⟨g, 0, none⟩) (compact L).length cap) ∧ Lst w' g (cap * 2) (compact L) ∧ w.grownBy w' (some g) := by
  have HL := Lib.hid hL
  have HOK := Lib.hid hok
  have HB1 := Lib.hid h1
  have HB2 := Lib.hid h2
  have HN1 := Lib.hid hbx
  have HN2 := Lib.hid hsx
  clear hL hok h1 h2 hbx hsx
  have hz59 : ∀ w, (zeroValue 59).run Try.prog w = .ok (.agg #[.int .i64 0, .slice none 0 0]) w := fun w => by kernel_rfl
  have HZ := Lib.hid hz59
  clear hz59
  by_cases hsz : L.length < 2
  · have HC : Hid (compact L = L) := Lib.hid (compact_all (fun j a b h => by omega))
    go_enter Try.func39, Try.ntmps39
    go_wp2_with fail
    go_ret
    rw [HC.out]
    exact ⟨rfl, HL.out, World.grownBy.refl _ _⟩
  · have hszb : decide ((L.length : Int) < 2) = false := by simp; omega
    go_enter Try.func39, Try.ntmps39
    go_wp2_with fail
    clear hszb
    go_loopw [5, 6, 7] (fun i _ _ wr => ∃ k : Nat, 1 ≤ k ∧ k ≤ L.length ∧ i = .int .i64 k ∧ Hid (Ext w wr) ∧ Hid (∀ j a b, j + 1 < k → L[j + 1]? = some a → L[j]? = some b → eqIt a b = false)) (fun i _ _ _ => L.length - (intOf i).toNat)
    case atStart => exact ⟨1, by omega, by omega, rfl, Lib.hid (Ext.refl _), Lib.hid (fun j a b h => by omega)⟩
    case round =>
      obtain ⟨k, hk1, hk, rfl, HE, HQ⟩ := hrel
      by_cases hlt : k < L.length
      · obtain ⟨a, ha⟩ := getElem?_of_lt hlt
        obtain ⟨b, hb⟩ := getElem?_of_lt (l := L) (k := k - 1) (by omega)
        have HA := Lib.hid ha
        have HB := Lib.hid hb
        clear ha hb
        have HL1 := Lib.hid (HL.out.ext (HE.out.drew))
        have t1 := HL1.out.cell0 HA.out
        have t2 := HL1.out.cell1 HA.out
        have t3 := HL1.out.cell0 HB.out
        have t4 := HL1.out.cell1 HB.out
        have HE1 := Lib.hid HE.out.drew
        clear HE
        have a1 : IntKind.i64.wrap ((k : Int) - 1) = (k : Int) - 1 := IntWalk.i64_in _ (by omega)
        have a2 : 0 ≤ (k : Int) - 1 := by omega
        have a3 : ((k : Int) - 1).toNat = k - 1 := by omega
        have a4 : (k : Int) - 1 < (L.length : Int) := by omega
        have a5 : (1 : Int) ≤ (k : Int) := by omega
        go_wp2_with fail
        refine region_still_tail 10 (by kernel_rfl) (by kernel_rfl) ?_
        simp only [List.take_succ_cons, List.take_zero, List.drop_succ_cons, List.drop_zero]
        generalize wr.drew = w3 at *
        iterate 10 still_step
        refine wpStill_nil ?_
        have HC := Lib.hid (sortEq_any a b bx sx so w3 g ((HOK.out a (List.mem_of_getElem? HA.out)).ext HE1.out) ((HOK.out b (List.mem_of_getElem? HB.out)).ext HE1.out) (HE1.out.cell HB1.out) (HE1.out.cell HB2.out))
        unfold Item.agg at HC
        clear t1 t2 t3 t4 HL1 a1 a2 a3 a4 a5
        cases heq : eqIt a b with
        | false =>
          rw [heq] at HC
          have HEQ := Lib.hid heq
          clear heq
          go_wp2_with fail
          refine HC.out.mono ?_
          rintro e w' ⟨rfl, he⟩
          have HE2 := Lib.hid (HE1.out.trans he)
          clear he
          go_wp2_with fail
          go_roundw
          case rel =>
            refine ⟨k + 1, by omega, by omega, by go_num, HE2, Lib.hid (fun j x y hj hx hy => ?_)⟩
            by_cases e : j + 1 = k
            · subst e
              rw [HA.out] at hx
              have hB := HB.out
              rw [show j + 1 - 1 = j from by omega, hy] at hB
              cases hx; cases hB
              exact HEQ.out
            · exact HQ.out j x y (by omega) hx hy
          case measure => simp [intOf]; omega
        | true =>
          rw [heq] at HC
          have HEQ := Lib.hid heq
          clear heq
          have HCP : Hid (compact L = L.take k ++ compGo a (L.drop (k + 1))) := Lib.hid (by
            obtain ⟨m, rfl⟩ : ∃ m, k = m + 1 := ⟨k - 1, by omega⟩
            rw [compGo_take (k := m) HQ.out HB.out, compGo_eq HA.out HEQ.out])
          go_wp2_with fail
          refine HC.out.mono ?_
          rintro e w' ⟨rfl, he⟩
          have HE2 := Lib.hid (HE1.out.trans he)
          clear he HC HE1
          go_wp2_with fail
          obtain ⟨wo, rfl⟩ : ∃ wo : World, wo = wr := ⟨_, rfl⟩
          go_loopw [7, 5] (fun s i wx => ∃ (j : Nat) (pre : List Item) (last : Item), 1 ≤ j ∧ j ≤ L.length - k ∧ s = .int .i64 j ∧ i = .int .i64 (pre.length : Nat) ∧ k ≤ pre.length ∧ pre.length + 1 ≤ k + j ∧ Hid (L[k + j - 1]? = some last) ∧ Hid (compact L = pre ++ compGo last (L.drop (k + j))) ∧ Hid (Lst wx g (cap * 2) (pre ++ L.drop pre.length)) ∧ Hid (w.grownBy wx (some g))) (fun s _ _ => L.length - (intOf s).toNat)
          case atStart =>
            have hlt' : (L.take k).length = k := by rw [List.length_take]; omega
            refine ⟨1, L.take k, a, by omega, by omega, rfl, by rw [hlt'], by omega, by omega, Lib.hid (by rw [show k + 1 - 1 = k from by omega]; exact HA.out), HCP, Lib.hid ?_, Lib.hid (gb_of_ext HE2.out g)⟩
            rw [hlt', List.take_append_drop]
            exact HL.out.ext HE2.out
          case round =>
            clear HE2 HCP HEQ HQ HA HB
            obtain ⟨j, pre, last, hj1, hj, rfl, rfl, hp1, hp2, HLA, HCP, HLS, HGB⟩ := hrel
            by_cases hjl : j < L.length - k
            · obtain ⟨a2, ha2⟩ := getElem?_of_lt (l := L) (k := k + j) (by omega)
              have m1 : (pre ++ L.drop pre.length)[k + j]? = some a2 := by rw [mem_at (by omega)]; exact ha2
              have m2 : (pre ++ L.drop pre.length)[k + (j - 1)]? = some last := by rw [mem_at (by omega), show k + (j - 1) = k + j - 1 from by omega]; exact HLA.out
              have t1 := HLS.out.cell0 m1
              have t2 := HLS.out.cell1 m1
              have t3 := HLS.out.cell0 m2
              have t4 := HLS.out.cell1 m2
              rw [Nat.add_mul] at t1 t2 t3 t4
              have HA2 := Lib.hid ha2
              have HM1 := Lib.hid m1
              clear ha2 m1 m2
              have t1' : wr.drew.cell? _ = _ := t1
              have t2' : wr.drew.cell? _ = _ := t2
              have t3' : wr.drew.cell? _ = _ := t3
              have t4' : wr.drew.cell? _ = _ := t4
              have HGB1 : Hid (w.grownBy wr.drew (some g)) := Lib.hid (gb_trans HGB.out (gb_of_ext ((Ext.refl _).drew) g))
              have HLS1 : Hid (Lst wr.drew g (cap * 2) (pre ++ L.drop pre.length)) := Lib.hid (HLS.out.ext ((Ext.refl _).drew))
              clear t1 t2 t3 t4 HGB HLS
              have hjz : (j : Int) < ((L.length - k : Nat) : Int) := by omega
              have a1 : IntKind.i64.wrap ((j : Int) - 1) = (j : Int) - 1 := IntWalk.i64_in _ (by omega)
              have a2' : 0 ≤ (j : Int) - 1 := by omega
              have a3 : ((j : Int) - 1).toNat = j - 1 := by omega
              have a4 : (j : Int) - 1 < ((L.length - k : Nat) : Int) := by omega
              have a5 : (1 : Int) ≤ (j : Int) := by omega
              go_wp2_with fail
              refine region_still_tail 10 (by kernel_rfl) (by kernel_rfl) ?_
              simp only [List.take_succ_cons, List.take_zero, List.drop_succ_cons, List.drop_zero]
              generalize wr.drew = w3 at *
              iterate 10 still_step
              refine wpStill_nil ?_
              have HC := Lib.hid (sortEq_any a2 last bx sx so w3 g ((HOK.out a2 (List.mem_of_getElem? HA2.out)).gb HGB1.out) ((HOK.out last (List.mem_of_getElem? HLA.out)).gb HGB1.out) (gb_cell HGB1.out HB1.out HN1.out) (gb_cell HGB1.out HB2.out HN2.out))
              unfold Item.agg at HC
              clear t3' t4' a1 a2' a3 a4 a5
              cases heq : eqIt a2 last with
              | true =>
                rw [heq] at HC
                have HEQ := Lib.hid heq
                clear heq t1' t2'
                go_wp2_with fail
                refine HC.out.mono ?_
                rintro e w4 ⟨rfl, he⟩
                have HGB2 := Lib.hid (gb_trans HGB1.out (gb_of_ext he g))
                have HLS2 := Lib.hid (HLS1.out.ext he)
                clear he
                go_wp2_with fail
                go_roundw
                case rel =>
                  refine ⟨j + 1, pre, a2, by omega, by omega, by go_num, rfl, hp1, by omega, Lib.hid (by rw [show k + (j + 1) - 1 = k + j from by omega]; exact HA2.out), Lib.hid ?_, HLS2, HGB2⟩
                  obtain ⟨m, hm⟩ : ∃ m, k + j = m + 1 := ⟨k + j - 1, by omega⟩
                  have h1 := HA2.out
                  rw [hm] at h1
                  rw [HCP.out, hm, compGo_eq h1 HEQ.out, show k + (j + 1) = m + 1 + 1 from by omega]
                case measure => simp [intOf]; omega
              | false =>
                rw [heq] at HC
                have HEQ := Lib.hid heq
                clear heq
                have hpl : pre.length < L.length := by omega
                have hpz : (pre.length : Int) < (L.length : Int) := by omega
                obtain ⟨p, hp⟩ : ∃ p, p = pre.length := ⟨_, rfl⟩
                go_wp2_with fail
                refine HC.out.mono ?_
                rintro e w4 ⟨rfl, he⟩
                have HGB2 := Lib.hid (gb_trans HGB1.out (gb_of_ext he g))
                have HLS2 := Lib.hid (HLS1.out.ext he)
                have s1 := he.cell t1'
                have s2 := he.cell t2'
                have hlm : pre.length < (pre ++ L.drop pre.length).length := by rw [List.length_append, List.length_drop]; omega
                obtain ⟨q, hq⟩ := getElem?_of_lt hlm
                have s3 := HLS2.out.cell0 hq
                have s4 := HLS2.out.cell1 hq
                have s5 := HLS2.out.frozen (pre.length * 2)
                have s6 := HLS2.out.frozen (pre.length * 2 + 1)
                have HSET := Lib.hid (HLS2.out.set hlm a2)
                clear he t1' t2' hq hlm HC hp
                go_wp2_with fail
                go_roundw
                case rel =>
                  refine ⟨j + 1, pre ++ [a2], a2, by omega, by omega, by go_num, by simp, by simp; omega, by simp; omega, Lib.hid (by rw [show k + (j + 1) - 1 = k + j from by omega]; exact HA2.out), Lib.hid ?_, Lib.hid ?_, Lib.hid (gb_set (gb_set HGB2.out _ _) _ _)⟩
                  · obtain ⟨m, hm⟩ : ∃ m, k + j = m + 1 := ⟨k + j - 1, by omega⟩
                    have h1 := HA2.out
                    rw [hm] at h1
                    rw [HCP.out, hm, compGo_ne h1 HEQ.out, show k + (j + 1) = m + 1 + 1 from by omega]
                    simp
                  · have := HSET.out
                    rw [mem_set hpl] at this
                    exact this
                case measure => simp [intOf]; omega
            · have hjl' : j = L.length - k := by omega
              have HF : Hid (compact L = pre) := Lib.hid (by rw [HCP.out, show k + j = L.length from by omega, List.drop_length]; simp [compGo])
              have hpl : pre.length < L.length := by omega
              have hcl : ∀ ty, (Builtin.clear_ #[52] ty #[.slice (some ⟨g, pre.length * 2, none⟩) (L.length - pre.length) (cap - pre.length)]).run Try.prog wr = .ok (.tuple #[]) (wr.setCells g (pre.length * 2) (Builtin.zeroCells #[.int .i64 0, .slice none 0 0] (L.length - pre.length)).toList) := fun ty => by
                obtain ⟨f, f1, f2, f3⟩ := HLS.out
                refine run_clear_agg wr _ 59 ty (.agg #[.int .i64 0, .slice none 0 0]) Try.underlying52 HZ.out (by simp [Value.cells, Value.oneCell']) (by simp [Value.cells]) g _ _ _ (by omega) (fun j hj => ?_) (fun j hj => f1.frozen _)
                simp [Value.cells] at hj
                rw [f1.cell (by omega)]; rfl
              have HCL : Hid (Lst (wr.setCells g (pre.length * 2) (Builtin.zeroCells #[.int .i64 0, .slice none 0 0] (L.length - pre.length)).toList) g (cap * 2) pre) := Lib.hid (by
                obtain ⟨f, f1, f2, f3⟩ := HLS.out
                obtain ⟨f', q1, q2, _⟩ := setCells_row (Builtin.zeroCells #[.int .i64 0, .slice none 0 0] (L.length - pre.length)).toList (pre.length * 2) wr f f1
                refine ⟨f', q1, by omega, fun i it hi => ?_⟩
                have hlt := (List.getElem?_eq_some_iff.1 hi).1
                have := f3 i it (by rw [List.getElem?_append_left hlt]; exact hi)
                rw [q2 _ (by omega), q2 _ (by omega)]
                exact this)
              have HGB3 : Hid (w.grownBy (wr.setCells g (pre.length * 2) (Builtin.zeroCells #[.int .i64 0, .slice none 0 0] (L.length - pre.length)).toList) (some g)) := Lib.hid (gb_setCells (b := wr) _ _ HGB.out)
              clear hjl'
              go_wp2_with fail
              go_ret
              rw [HF.out]
              exact ⟨rfl, HCL.out, HGB3.out⟩
      · have HC : Hid (compact L = L) := Lib.hid (compact_all (fun j a b h => HQ.out j a b (by omega)))
        go_wp2_with fail
        go_ret
        rw [HC.out]
        exact ⟨rfl, HL.out.ext HE.out, gb_of_ext HE.out g⟩

end Go.Proofs.Ytennjcjjegbhgaa
