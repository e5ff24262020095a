/-
  The walk of (*sorter).sort: slices.SortFunc by the shelf's contract, then slices.CompactFunc.
-/
import Derived.Test.YtennjcjjegbhgaaOrder
import Derived.Test.YtennjcjjegbhgaaWalkK
import Derived.Test.YtennjcjjegbhgaaShelf
import Derived.Deep.RegionHeld3
import Derived.Deep.RegionLaw
namespace Go.Proofs.Ytennjcjjegbhgaa
open Go.RowKit
open Go.Sort (flatK putRowK HoldsK get_flatK size_flatK)

def encIt (it : Item) : List Value := [.int .i64 it.key, .slice it.at_ it.vals.length it.cap]

theorem rowIs_putRow {w : World} {g t N : Nat} {f : Nat → Value} (h : w.rowIs g t N f) (d : Array Value) : (Sort.putRow id w g 0 d).rowIs g t N (fun k => if k < d.size then d[k]! else f k) := by
  obtain ⟨c, hb, hn, hc⟩ := h
  refine ⟨Sort.putCells id 0 d c, ?_, by simp [Sort.putCells, hn], fun i hi => ?_⟩
  · simp [Sort.putRow, Sort.mapBlock, Array.getElem?_modify, hb, Sort.onCells]
  · simp [Sort.putCells, hc i hi]
theorem putRow_block (w : World) (g : Nat) (d : Array Value) (k : Nat) (hk : k ≠ g) : (Sort.putRow id w g 0 d).heap[k]? = w.heap[k]? := by
  simp [Sort.putRow, Sort.mapBlock, Array.getElem?_modify, Ne.symm hk]
theorem putRow_size (w : World) (g : Nat) (d : Array Value) : (Sort.putRow id w g 0 d).heap.size = w.heap.size := by
  simp [Sort.putRow, Sort.mapBlock]

section
variable {α : Type} [Inhabited α] (enc : α → List Value) (w : World) (g n : Nat) (d : Array α) (os : Array Obj)
theorem sortW_gb : w.grownBy (sortWorldK enc 2 w g 0 n d os) (some g) := by
  unfold sortWorldK putRowK
  refine ⟨rfl, rfl, rfl, ?_, fun k hk hne => ?_⟩
  · show w.heap.size ≤ ((Sort.putRow id (Sort.ahead w n) g 0 _).heap ++ os).size
    rw [Array.size_append, putRow_size]
    exact Nat.le_add_right _ _
  · show ((Sort.putRow id (Sort.ahead w n) g 0 _).heap ++ os)[k]? = w.heap[k]?
    rw [Array.getElem?_append_left (by rw [putRow_size]; exact hk), putRow_block _ _ _ _ (fun e => hne (by rw [e]))]
    rfl
theorem sortW_row {t N : Nat} {f : Nat → Value} (h : w.rowIs g t N f) : (sortWorldK enc 2 w g 0 n d os).rowIs g t N (fun k => if k < (flatK enc 2 d).size then (flatK enc 2 d)[k]! else f k) := by
  have h1 := rowIs_putRow (w := Sort.ahead w n) h (flatK enc 2 d)
  refine h1.of_block ?_
  unfold sortWorldK putRowK
  show ((Sort.putRow id (Sort.ahead w n) g 0 _).heap ++ os)[g]? = _
  rw [Array.getElem?_append_left h1.lt]
end

/-- The items of a list whose vectors lie in w, outside block g. -/
structure OkIt (w : World) (g : Nat) where
  it : Item
  ok : ItemOk w g it
instance (w : World) (g : Nat) : Inhabited (OkIt w g) := ⟨⟨⟨0, [], none, 0⟩, ⟨RdI.nil _ _ _, (by intro p h; cases h), by simp⟩⟩⟩
def encOk (w : World) (g : Nat) (x : OkIt w g) : List Value := encIt x.it
def arrOk (w : World) (g : Nat) (L : List Item) (h : ∀ it ∈ L, ItemOk w g it) : Array (OkIt w g) := (L.attach.map fun x => (⟨x.1, h x.1 x.2⟩ : OkIt w g)).toArray
theorem arrOk_size {w : World} {g : Nat} {L : List Item} (h : ∀ it ∈ L, ItemOk w g it) : (arrOk w g L h).size = L.length := by
  unfold arrOk; rw [List.size_toArray, List.length_map, List.length_attach]
theorem arrOk_list {w : World} {g : Nat} {L : List Item} (h : ∀ it ∈ L, ItemOk w g it) : (arrOk w g L h).toList.map (fun x : OkIt w g => x.it) = L := by
  unfold arrOk
  rw [List.map_map]
  exact List.attach_map_subtype_val L

theorem flat_at {w : World} {g : Nat} (d : Array (OkIt w g)) {j : Nat} {it : Item} (hj : (d.toList.map (fun x : OkIt w g => x.it))[j]? = some it) :
    (flatK (encOk w g) 2 d)[j * 2]! = .int .i64 it.key ∧ (flatK (encOk w g) 2 d)[j * 2 + 1]! = it.val := by
  have hlt : j < d.size := by have := (List.getElem?_eq_some_iff.1 hj).1; simpa using this
  have he : d[j]!.it = it := by
    have : d.toList[j]? = some d[j]! := by simp [hlt]
    rw [List.getElem?_map, this] at hj
    simpa using hj
  constructor
  · rw [get_flatK _ _ _ _ (by omega), show j * 2 / 2 = j from by omega, show j * 2 % 2 = 0 from by omega]
    simp [encOk, encIt, he]
  · rw [get_flatK _ _ _ _ (by omega), show (j * 2 + 1) / 2 = j from by omega, show (j * 2 + 1) % 2 = 1 from by omega]
    simp [encOk, encIt, he, Item.val]

theorem holds_of_lst {w : World} {g N : Nat} {L : List Item} (hL : Lst w g N L) (h : ∀ it ∈ L, ItemOk w g it) : HoldsK (encOk w g) 2 w g 0 (arrOk w g L h) := by
  obtain ⟨f, h1, h2, h3⟩ := hL
  intro t ht
  rw [size_flatK, arrOk_size] at ht
  have hj : t / 2 < L.length := by omega
  obtain ⟨it, hit⟩ := getElem?_of_lt hj
  have hfl := flat_at (arrOk w g L h) (j := t / 2) (it := it) (by rw [arrOk_list]; exact hit)
  obtain ⟨q1, q2⟩ := h3 _ _ hit
  rw [Nat.zero_add]
  refine ⟨?_, h1.frozen t⟩
  rw [h1.cell (by omega)]
  rcases Nat.mod_two_eq_zero_or_one t with e | e
  · rw [show t = t / 2 * 2 from by omega, hfl.1, q1]; rfl
  · rw [show t = t / 2 * 2 + 1 from by omega, hfl.2, q2]; rfl

theorem ItemOk.sortW {w : World} {g n : Nat} {d : Array (OkIt w g)} {os : Array Obj} {it : Item} (h : ItemOk w g it) : ItemOk (sortWorldK (encOk w g) 2 w g 0 n d os) g it := h.gb (sortW_gb _ _ _ _ _ _)

theorem cmpLays_it (w : World) (g size : Nat) : CmpLays Try.prog 26 #[] (encOk w g) 2 (fun a b => cmpIt a.it b.it) g 0 size w := fun m os dk hs x y =>
  compareByNorm_any x.it.key y.it.key x.it.at_ y.it.at_ x.it.cap y.it.cap x.it.vals y.it.vals _ x.ok.sortW.rd y.ok.sortW.rd x.ok.le y.ok.le

/-- Ascending: no later item is less than an earlier one. -/
def SortedL (L : List Item) : Prop := ∀ (i j : Nat) a b, i < j → L[i]? = some a → L[j]? = some b → ¬ cmpIt b a < 0

theorem sortFunc_any (g cap : Nat) (L : List Item) (w : World) (hL : Lst w g (cap * 2) L) (hlen : L.length < 4611686018427387904) (hok : ∀ it ∈ L, ItemOk w g it) :
    Calls Try.prog 38 #[.slice (some ⟨g, 0, none⟩) L.length cap, .func (Fn.func 26) #[] #[]] w fun e w' =>
      ∃ L', e = .returned (.tuple #[]) ∧ L'.Perm L ∧ SortedL L' ∧ Lst w' g (cap * 2) L' ∧ w.grownBy w' (some g) := by
  have eg : ∀ args w, (callFunc 26 args).run Try.prog w = .ok (.enter 26 args) w := enters_of Try.func26 (by kernel_rfl) rfl
  obtain ⟨f, h1, h2, h3⟩ := hL
  have hlt := h1.lt
  have hcon := AnyQ.slices_SortFunc (α := OkIt w g) Try.sortK 2 (fun w => by kernel_rfl) (fun w => by kernel_rfl) (encOk w g) (fun _ => rfl) (fun x v hv => by simp [encOk, encIt] at hv; rcases hv with rfl | rfl <;> rfl) (fun a b => cmpIt a.it b.it) (swoIt fun x : OkIt w g => x.it) 26 #[] g 0 cap (arrOk w g L hok) w eg (cmpLays_it w g _) (holds_of_lst ⟨f, h1, h2, h3⟩ hok) hlt (by rw [arrOk_size]; exact hlen)
  change Calls Try.prog 38 _ _ _ at hcon
  rw [arrOk_size] at hcon
  refine hcon.mono fun e w' ⟨he, d', n, os, hp, hs, hw⟩ => ?_
  obtain ⟨hsz, _, hperm⟩ := hp
  rw [arrOk_size] at hsz
  have hlen' : (d'.toList.map (fun x : OkIt w g => x.it)).length = L.length := by simp [hsz]
  refine ⟨d'.toList.map (fun x : OkIt w g => x.it), he, ?_, ?_, ?_, by rw [hw]; exact sortW_gb _ _ _ _ _ _⟩
  · have hp2 : d'.toList.Perm (arrOk w g L hok).toList := by
      have e1 : d'.extract 0 L.length = d' := by rw [← hsz]; simp
      have e2 : (arrOk w g L hok).extract 0 L.length = arrOk w g L hok := by
        have := arrOk_size hok
        rw [← this]; simp
      rw [e1, e2] at hperm
      exact hperm
    have := hp2.map (fun x : OkIt w g => x.it)
    rw [arrOk_list] at this
    exact this
  · intro i j a b hij ha hb
    have hj : j < d'.size := by have := (List.getElem?_eq_some_iff.1 hb).1; simpa using this
    have ea : d'[i]!.it = a := by
      have : d'.toList[i]? = some d'[i]! := by simp [show i < d'.size by omega]
      rw [List.getElem?_map, this] at ha; simpa using ha
    have eb : d'[j]!.it = b := by
      have : d'.toList[j]? = some d'[j]! := by simp [hj]
      rw [List.getElem?_map, this] at hb; simpa using hb
    have := hs i j (Nat.zero_le _) hij (by omega)
    unfold ltOf at this
    rw [decide_eq_false_iff_not] at this
    change ¬ cmpIt d'[j]!.it d'[i]!.it < 0 at this
    rw [ea, eb] at this
    exact this
  · rw [hw]
    refine ⟨_, sortW_row _ _ _ _ _ _ h1, by rw [hlen']; exact h2, fun j it hj => ?_⟩
    have hlt2 : j < d'.size := by have := (List.getElem?_eq_some_iff.1 hj).1; simpa using this
    obtain ⟨q1, q2⟩ := flat_at d' hj
    rw [if_pos (by rw [size_flatK]; omega), if_pos (by rw [size_flatK]; omega)]
    exact ⟨q1, q2⟩

set_option maxRecDepth 100000 in
set_option maxHeartbeats 2000000 in
/-- (*sorter).sort: behind it the list holds the items in order, equal ones once. sx: the sorter's block. -/
theorem sort_any (sx g cap : Nat) (L : List Item) (w : World) (hL : Lst w g (cap * 2) L) (hcap : L.length ≤ cap) (hlen : L.length ≤ 4611686018427387903) (hok : ∀ it ∈ L, ItemOk w g it)
    (hS : w.rowIs sx 54 2 (fun j => if j = 0 then .slice (some ⟨g, 0, none⟩) L.length cap else .func (Fn.func 26) #[] #[])) (hsx : sx ≠ g) :
    Calls Try.prog 30 #[.pointer (some ⟨sx, 0, none⟩)] w fun e w' =>
      ∃ L', e = .returned (.tuple #[]) ∧ L'.Perm L ∧ SortedL L' ∧ Lst w' g (cap * 2) (compact L') ∧ w'.cell? ⟨sx, 0, none⟩ = some (.slice (some ⟨g, 0, none⟩) (compact L').length cap) ∧ w'.rowIs sx 54 2 (fun j => if j = 0 then .slice (some ⟨g, 0, none⟩) (compact L').length cap else .func (Fn.func 26) #[] #[]) ∧
        (∀ k, k < w.heap.size → k ≠ g → k ≠ sx → w'.heap[k]? = w.heap[k]?) ∧ w.heap.size ≤ w'.heap.size ∧ w'.os = w.os ∧ w'.tape = w.tape ∧ w'.output = w.output := by
  have HL := Lib.hid hL
  have HOK := Lib.hid hok
  have HS := Lib.hid hS
  have HN := Lib.hid hsx
  have hglt : g < w.heap.size := by obtain ⟨f, h1, _⟩ := hL; exact h1.lt
  have hslt := hS.lt
  clear hL hok hS hsx
  go_enter Try.func30, Try.ntmps30
  go_wp2_with fail
  have c0 : (w.alloc (.cells #[.pointer (some ⟨sx, 0, none⟩)] 67)).drew.cell? ⟨w.heap.size, 0, none⟩ = some (.pointer (some ⟨sx, 0, none⟩)) := by go_simp
  have HE0 : Hid (Ext w (w.alloc (.cells #[.pointer (some ⟨sx, 0, none⟩)] 67)).drew) := Lib.hid ((Ext.refl _).alloc _).drew
  have hz0 : w.heap.size < (w.alloc (.cells #[.pointer (some ⟨sx, 0, none⟩)] 67)).drew.heap.size := by simp [World.drew]
  generalize w.alloc (.cells #[.pointer (some ⟨sx, 0, none⟩)] 67) = w1 at *
  refine region_still_tail 8 (by kernel_rfl) (by kernel_rfl) ?_
  simp only [List.take_succ_cons, List.take_zero, List.drop_succ_cons, List.drop_zero]
  generalize w1.drew = w2 at *
  have s0 : w2.cell? ⟨sx, 0, none⟩ = some (.slice (some ⟨g, 0, none⟩) L.length cap) := (rowIs_ext HS.out HE0.out).cell (by omega)
  have s1 : w2.cell? ⟨sx, 1, none⟩ = some (.func (Fn.func 26) #[] #[]) := (rowIs_ext HS.out HE0.out).cell (by omega)
  iterate 8 still_step
  refine wpStill_nil ?_
  have HC := Lib.hid (sortFunc_any g cap L w2 (HL.out.ext HE0.out) (by omega) (fun it hit => (HOK.out it hit).ext HE0.out))
  clear s1
  go_wp2_with fail
  refine HC.out.mono ?_
  rintro e w3 ⟨L', rfl, hperm, hsorted, hlst, hgb⟩
  have HP := Lib.hid hperm
  have HSO := Lib.hid hsorted
  have HLS := Lib.hid hlst
  have HG3 := Lib.hid hgb
  have HLL : Hid (L'.length = L.length) := Lib.hid hperm.length_eq
  clear hperm hsorted hlst hgb HC s0
  go_wp2_with fail
  have HOK3 : Hid (∀ it ∈ L', ItemOk w3 g it) := Lib.hid (fun it hit => ((HOK.out it (HP.out.subset hit)).ext HE0.out).gb HG3.out)
  have HS3 : Hid (w3.rowIs sx 54 2 (fun j => if j = 0 then .slice (some ⟨g, 0, none⟩) L.length cap else .func (Fn.func 26) #[] #[])) := Lib.hid ((rowIs_ext HS.out HE0.out).of_block (HG3.out.block sx (Nat.lt_of_lt_of_le hslt HE0.out.size) (fun e => HN.out (by injection e))))
  have d0 : w3.cell? ⟨w.heap.size, 0, none⟩ = some (.pointer (some ⟨sx, 0, none⟩)) := gb_cell HG3.out c0 (by show w.heap.size ≠ g; omega)
  have d1 : w3.cell? ⟨sx, 0, none⟩ = some (.slice (some ⟨g, 0, none⟩) L.length cap) := HS3.out.cell (by omega)
  have d2 : w3.frozen? ⟨sx, 0, none⟩ = false := HS3.out.frozen 0
  have hcon := compactFunc_any g cap L' w.heap.size sx 0 w3.drew (HLS.out.ext ((Ext.refl _).drew)) (by rw [HLL.out]; exact hcap) (by rw [HLL.out]; omega) (fun it hit => (HOK3.out it hit).ext ((Ext.refl _).drew)) d0 (show w3.drew.cell? ⟨sx, 0 + 1, none⟩ = _ from HS3.out.cell (i := 1) (by omega)) (by omega) HN.out
  rw [HLL.out] at hcon
  have HC := Lib.hid hcon
  clear hcon c0
  have HG4 : Hid (w2.grownBy w3.drew (some g)) := Lib.hid (gb_trans HG3.out (gb_of_ext ((Ext.refl _).drew) g))
  go_region_law (go_simp; go_at_call 39; refine HC.out.mono ?_; rintro e w5 ⟨rfl, hlst, hgb⟩; have HLS5 := Lib.hid hlst; have HG5 := Lib.hid hgb; have HS5 : Hid (w5.rowIs sx 54 2 (fun j => if j = 0 then .slice (some ⟨g, 0, none⟩) L.length cap else .func (Fn.func 26) #[] #[])) := Lib.hid (HS3.out.of_block (hgb.block sx HS3.out.lt (fun e => HN.out (by injection e)))); have f0 : w5.cell? ⟨w.heap.size, 0, none⟩ = some (.pointer (some ⟨sx, 0, none⟩)) := gb_cell hgb d0 (by show w.heap.size ≠ g; omega); have f1 : w5.cell? ⟨sx, 0, none⟩ = some (.slice (some ⟨g, 0, none⟩) L.length cap) := HS5.out.cell (by omega); have f2 : w5.frozen? ⟨sx, 0, none⟩ = false := HS5.out.frozen 0; clear hlst hgb)
  all_goals
    go_wp2_with fail
    go_end0
    have hrow := (HS5.out.set 0 (.slice (some ⟨g, 0, none⟩) (compact L').length cap)).congr (g := fun j => if j = 0 then .slice (some ⟨g, 0, none⟩) (compact L').length cap else .func (Fn.func 26) #[] #[]) (fun j hj => by
      match j, hj with
      | 0, _ => rfl
      | 1, _ => rfl)
    have hgg := gb_trans (gb_trans (gb_of_ext HE0.out g) HG4.out) HG5.out
    refine ⟨L', rfl, HP.out, HSO.out, ?_, hrow.cell (by omega), hrow, fun k hk hkg hks => ?_, ?_, hgg.os, hgg.tape, hgg.output⟩
    · obtain ⟨f, q1, q2, q3⟩ := HLS5.out
      exact ⟨f, q1.setOther (Ne.symm HN.out) _, q2, q3⟩
    · rw [Below.heap_setCell _ _ _ _ hks]
      exact hgg.block k hk (fun e => hkg (by injection e))
    · simpa [World.setCell] using hgg.size

end Go.Proofs.Ytennjcjjegbhgaa
