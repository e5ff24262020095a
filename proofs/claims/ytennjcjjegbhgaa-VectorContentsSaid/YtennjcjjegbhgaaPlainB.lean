/-
  Plain facts: the list that SortUnique gives depends on the set of its items alone: 'uniq'.
-/
import Derived.Test.YtennjcjjegbhgaaWalkN
namespace Go.Proofs.Ytennjcjjegbhgaa
open Go.RowKit

/-- By the norm, then lexicographically. -/
def ltP (a b : Int × List Int) : Prop := a.1 < b.1 ∨ a.1 = b.1 ∧ cmpL a.2 b.2 < 0
instance (a b : Int × List Int) : Decidable (ltP a b) := inferInstanceAs (Decidable (_ ∨ _))
/-- Insertion into an ascending list, unless it is there. -/
def putP (x : Int × List Int) : List (Int × List Int) → List (Int × List Int)
  | [] => [x]
  | a :: l => if ltP a x then a :: putP x l else if ltP x a then x :: a :: l else a :: l
/-- The different elements in order. -/
def uniqP (l : List (Int × List Int)) : List (Int × List Int) := l.foldl (fun acc x => putP x acc) []

theorem ltP_irrefl (a : Int × List Int) : ¬ ltP a a := by
  unfold ltP; rw [cmpL_self]; omega
theorem ltP_trans {a b c : Int × List Int} (h1 : ltP a b) (h2 : ltP b c) : ltP a c := by
  unfold ltP at *
  rcases h1 with h1 | ⟨h1, h1'⟩ <;> rcases h2 with h2 | ⟨h2, h2'⟩
  · omega
  · omega
  · omega
  · exact .inr ⟨by omega, cmpL_trans h1' h2'⟩
theorem ltP_total {a b : Int × List Int} (h1 : ¬ ltP a b) (h2 : ¬ ltP b a) : a = b := by
  unfold ltP at *
  have ha := cmpL_anti a.2 b.2
  have e1 : a.1 = b.1 := by omega
  have e2 : cmpL a.2 b.2 = 0 := by omega
  exact Prod.ext e1 (cmpL_eq e2)

/-- Strictly ascending. -/
def Asc (l : List (Int × List Int)) : Prop := l.Pairwise ltP

theorem asc_ext : ∀ {l m : List (Int × List Int)}, Asc l → Asc m → (∀ x, x ∈ l ↔ x ∈ m) → l = m
  | [], [], _, _, _ => rfl
  | [], b :: m, _, _, h => by have := (h b).2 List.mem_cons_self; simp at this
  | a :: l, [], _, _, h => by have := (h a).1 List.mem_cons_self; simp at this
  | a :: l, b :: m, hl, hm, h => by
    obtain ⟨hl1, hl2⟩ := List.pairwise_cons.1 hl
    obtain ⟨hm1, hm2⟩ := List.pairwise_cons.1 hm
    have e : a = b := by
      rcases List.mem_cons.1 ((h a).1 List.mem_cons_self) with e | ha
      · exact e
      · rcases List.mem_cons.1 ((h b).2 List.mem_cons_self) with e | hb
        · exact e.symm
        · exact absurd (ltP_trans (hm1 a ha) (hl1 b hb)) (ltP_irrefl b)
    subst e
    rw [asc_ext hl2 hm2 (fun x => ?_)]
    constructor
    · intro hx
      rcases List.mem_cons.1 ((h x).1 (List.mem_cons_of_mem _ hx)) with e | hx'
      · subst e; exact absurd (hl1 x hx) (ltP_irrefl x)
      · exact hx'
    · intro hx
      rcases List.mem_cons.1 ((h x).2 (List.mem_cons_of_mem _ hx)) with e | hx'
      · subst e; exact absurd (hm1 x hx) (ltP_irrefl x)
      · exact hx'

theorem putP_mem {x y : Int × List Int} : ∀ {l : List (Int × List Int)}, y ∈ putP x l ↔ y = x ∨ y ∈ l
  | [] => by simp [putP]
  | a :: l => by
    unfold putP
    split
    · rw [List.mem_cons, putP_mem, List.mem_cons]
      constructor
      · rintro (h | h | h)
        · exact .inr (.inl h)
        · exact .inl h
        · exact .inr (.inr h)
      · rintro (h | h | h)
        · exact .inr (.inl h)
        · exact .inl h
        · exact .inr (.inr h)
    · split
      · rw [List.mem_cons]
      · rename_i h1 h2
        have e := ltP_total h2 h1
        constructor
        · exact .inr
        · rintro (h | h)
          · rw [h, e]; exact List.mem_cons_self
          · exact h
theorem putP_asc {x : Int × List Int} : ∀ {l : List (Int × List Int)}, Asc l → Asc (putP x l)
  | [], _ => by simp [putP, Asc]
  | a :: l, h => by
    obtain ⟨h1, h2⟩ := List.pairwise_cons.1 h
    unfold putP
    split
    · rename_i hlt
      refine List.pairwise_cons.2 ⟨fun y hy => ?_, putP_asc h2⟩
      rcases putP_mem.1 hy with e | hy
      · rw [e]; exact hlt
      · exact h1 y hy
    · split
      · rename_i hlt
        refine List.pairwise_cons.2 ⟨fun y hy => ?_, h⟩
        rcases List.mem_cons.1 hy with e | hy
        · rw [e]; exact hlt
        · exact ltP_trans hlt (h1 y hy)
      · exact h
theorem fold_asc : ∀ (l acc : List (Int × List Int)), Asc acc → Asc (l.foldl (fun acc x => putP x acc) acc) ∧ ∀ y, y ∈ l.foldl (fun acc x => putP x acc) acc ↔ y ∈ l ∨ y ∈ acc
  | [], acc, h => ⟨h, fun y => by simp⟩
  | x :: l, acc, h => by
    obtain ⟨h1, h2⟩ := fold_asc l (putP x acc) (putP_asc h)
    refine ⟨h1, fun y => ?_⟩
    show y ∈ l.foldl _ (putP x acc) ↔ _
    rw [h2, putP_mem, List.mem_cons]
    constructor
    · rintro (h | h | h)
      · exact .inl (.inr h)
      · exact .inl (.inl h)
      · exact .inr h
    · rintro ((h | h) | h)
      · exact .inr (.inl h)
      · exact .inl h
      · exact .inr (.inr h)
theorem uniqP_asc (l : List (Int × List Int)) : Asc (uniqP l) := (fold_asc l [] (by simp [Asc])).1
theorem uniqP_mem {l : List (Int × List Int)} {y : Int × List Int} : y ∈ uniqP l ↔ y ∈ l := by
  unfold uniqP; rw [(fold_asc l [] (by simp [Asc])).2]; simp

theorem cmpIt_lt {a b : Item} : cmpIt a b < 0 ↔ ltP a.dat b.dat := by unfold cmpIt ltP; rw [cmpN_lt]; rfl
theorem eqIt_iff {a b : Item} : eqIt a b = true ↔ a.dat = b.dat := by
  unfold eqIt cmpIt
  rw [beq_iff_eq, cmpN_zero]
  constructor
  · rintro ⟨h1, h2⟩; exact Prod.ext h1 h2
  · intro h; exact ⟨congrArg Prod.fst h, congrArg Prod.snd h⟩

theorem compGo_spec : ∀ {l : List Item} {p : Item}, (∀ (i j : Nat) a b, i < j → (p :: l)[i]? = some a → (p :: l)[j]? = some b → ¬ cmpIt b a < 0) →
    Asc ((p :: compGo p l).map Item.dat) ∧ ∀ y, y ∈ (p :: compGo p l).map Item.dat ↔ y ∈ (p :: l).map Item.dat
  | [], p, _ => by simp [compGo, Asc]
  | b :: l, p, h => by
    have hs : ∀ (i j : Nat) a c, i < j → (b :: l)[i]? = some a → (b :: l)[j]? = some c → ¬ cmpIt c a < 0 := fun i j a c hij ha hc => h (i + 1) (j + 1) a c (by omega) (by simpa using ha) (by simpa using hc)
    obtain ⟨h1, h2⟩ := compGo_spec hs
    have hpb : ¬ cmpIt b p < 0 := h 0 1 p b (by omega) rfl rfl
    unfold compGo
    split
    · rename_i e
      rw [eqIt_iff] at e
      simp only [List.map_cons] at h1 h2 ⊢
      rw [← e]
      refine ⟨h1, fun y => ?_⟩
      rw [h2 y]
      simp
    · rename_i e
      rw [eqIt_iff] at e
      refine ⟨?_, fun y => ?_⟩
      · rw [List.map_cons]
        refine List.pairwise_cons.2 ⟨fun y hy => ?_, h1⟩
        rw [h2 y] at hy
        obtain ⟨c, hc, rfl⟩ := List.mem_map.1 hy
        obtain ⟨j, hj, hjc⟩ := List.getElem_of_mem hc
        have q : ¬ cmpIt c p < 0 := h 0 (j + 1) p c (by omega) rfl (by simp; rw [List.getElem?_eq_getElem hj, hjc])
        rw [cmpIt_lt] at q
        by_cases hlt : ltP p.dat c.dat
        · exact hlt
        · have e2 := ltP_total q hlt
          exfalso
          have q2 : ¬ cmpIt c b < 0 := by
            cases j with
            | zero => simp at hjc; subst hjc; unfold cmpIt; rw [cmpN_lt, cmpL_self]; omega
            | succ j => exact hs 0 (j + 1) b c (by omega) rfl (by rw [List.getElem?_eq_getElem hj, hjc])
          rw [cmpIt_lt, e2] at q2
          rw [cmpIt_lt] at hpb
          exact e (ltP_total hpb q2)
      · rw [List.map_cons, List.mem_cons, h2 y]
        simp

/-- The list that SortUnique gives. -/
theorem compact_uniq {L : List Item} {ks : List (Int × List Int)} (hp : (L.map Item.dat).Perm ks) (hs : SortedL L) : (compact L).map Item.dat = uniqP ks := by
  have hc : Asc ((compact L).map Item.dat) ∧ ∀ y, y ∈ (compact L).map Item.dat ↔ y ∈ L.map Item.dat := by
    cases L with
    | nil => simp [compact, Asc]
    | cons a l => exact compGo_spec hs
  refine asc_ext hc.1 (uniqP_asc ks) (fun x => ?_)
  rw [hc.2 x, uniqP_mem]
  exact hp.mem_iff
theorem compact_vals {L : List Item} {ks : List (Int × List Int)} (hp : (L.map Item.dat).Perm ks) (hs : SortedL L) : (compact L).map Item.vals = (uniqP ks).map Prod.snd := by
  rw [← compact_uniq hp hs, List.map_map]
  rfl

/-- SortUnique, plainly. -/
def SUV (w' : World) (r : Option (List (Int × List Int))) (e : Ending) : Prop := match r with
  | none => e = .returned (.tuple #[.slice none 0 0, .bool false])
  | some ks => ∃ A, e = .returned (.tuple #[.slice A ((uniqP ks).map Prod.snd).length ((uniqP ks).map Prod.snd).length, .bool true]) ∧ RdM .i64 w' A ((uniqP ks).map Prod.snd)
theorem SUPost.plain {w' : World} {r : Option (List (Int × List Int))} {e : Ending} (h : SUPost w' r e) : SUV w' r e := by
  cases r with
  | none => exact h
  | some ks =>
    obtain ⟨L, hp, hs, A, he, hrd⟩ := h
    refine ⟨A, ?_, ?_⟩
    · rw [← compact_vals hp hs]; simpa using he
    · rw [← compact_vals hp hs]; exact hrd
theorem sortUnique_plain (A B : Option Addr) (c d : Nat) (rows l : List (List Int)) (w : World) (hR : RdM .i64 w A rows) (hl : RdM .i64 w B l) (lr : rows.length ≤ 9223372036854775807) (hc : rows.length ≤ c) (ll : l.length ≤ 65536) :
    Calls Try.prog 15 #[.slice A rows.length c, .slice B l.length d] w fun e w' => SUV w' (if isReducedM rows then itemsO rows l else none) e ∧ Ext w w' :=
  (sortUnique_any A B c d rows l w hR hl lr hc ll).mono fun _ _ ⟨h1, h2⟩ => ⟨h1.plain, h2⟩

end Go.Proofs.Ytennjcjjegbhgaa
