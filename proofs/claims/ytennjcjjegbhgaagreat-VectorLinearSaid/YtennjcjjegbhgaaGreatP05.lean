/-
  Part 6 of a proof (walks and plain facts).
-/
import Derived.Test.YtennjcjjegbhgaaGreatP04
import Derived.StillTailTactics
import Derived.Sort.Grow
import Derived.Deep.DeepFit
set_option linter.all false
namespace Go.Proofs.YtennjcjjegbhgaaGreat
open Go.RowKit
def ls {α : Type} (f : α → List PV) (l : List α) : List (List PV) := l.map f
def lc {α : Type} (f : α → List PV) (l : List α) : List (List AV) := l.map fun x => (f x).map AV.p
section
variable {α : Type} {f : α → List PV}
theorem ls_len (l : List α) : (ls f l).length = l.length := by simp [ls]
theorem lc_len (l : List α) : (lc f l).length = l.length := by simp [lc]
theorem ls_get (l : List α) (i : Nat) : (ls f l)[i]? = (l[i]?).map f := by simp [ls]
theorem lc_get (l : List α) (i : Nat) : (lc f l)[i]? = (l[i]?).map fun x => (f x).map AV.p := by simp [lc]
theorem ls_take (l : List α) (i : Nat) : (ls f l).take i = ls f (l.take i) := by simp [ls]
theorem lc_take (l : List α) (i : Nat) : (lc f l).take i = lc f (l.take i) := by simp [lc]
theorem lc_drop (l : List α) (i : Nat) : (lc f l).drop i = lc f (l.drop i) := by simp [lc]
theorem ls_own (l : List α) : (ls f l).map (List.map AV.p) = lc f l := by simp [ls, lc]
theorem map_unP (l : List PV) : (l.map AV.p).map unP = l := by rw [List.map_map]; exact (List.map_congr_left (fun _ _ => rfl)).trans (List.map_id l)
theorem lc_pure (l : List α) : (lc f l).map (List.map unP) = ls f l := by
  simp only [ls, lc, List.map_map]
  exact List.map_congr_left fun x _ => map_unP (f x)
theorem lc_cellF (H : OH) (a : Nat) (l : List α) : (lc f l).map (List.map (cellF H a)) = ls f l := by
  simp only [ls, lc, List.map_map]
  refine List.map_congr_left fun x _ => ?_
  show ((f x).map AV.p).map (cellF H a) = f x
  rw [List.map_map]; exact (List.map_congr_left (fun _ _ => rfl)).trans (List.map_id _)
theorem lc_allp (l : List α) : ((lc f l).all fun e => e.all isPure) = true := by
  simp [lc, isPure]
theorem ls_cons (x : α) (l : List α) : ls f (x :: l) = f x :: ls f l := rfl
theorem ls_nil : ls f [] = [] := rfl
theorem lc_set (l : List α) (i : Nat) (x : α) : (lc f l).set i ((f x).map AV.p) = lc f (l.set i x) := by simp [lc, List.map_set]
theorem ls_all {n : Nat} (hf : ∀ x, (f x).length = n) (l : List α) : (∀ c ∈ ls f l, c.length = n) = True := by
  simp only [eq_iff_iff, iff_true]
  intro c hc
  obtain ⟨x, _, rfl⟩ := List.mem_map.1 hc
  exact hf x
theorem lc_all {n : Nat} (hf : ∀ x, (f x).length = n) (l : List α) : (∀ c ∈ lc f l, c.length = n) = True := by
  simp only [eq_iff_iff, iff_true]
  intro c hc
  obtain ⟨x, _, rfl⟩ := List.mem_map.1 hc
  rw [List.length_map]; exact hf x
theorem lc_kill (k : Nat → Nat → Bool) (l : List α) : (lc f l).map (List.map (killAV k)) = lc f l := by
  simp only [lc, List.map_map]
  refine List.map_congr_left fun x _ => ?_
  show ((f x).map AV.p).map (killAV k) = _
  rw [List.map_map]; exact List.map_congr_left (fun _ _ => rfl)
theorem lc_ren (d : Nat) (l : List α) : (lc f l).map (List.map (renAV d)) = lc f l := by
  simp only [lc, List.map_map]
  refine List.map_congr_left fun x _ => ?_
  show ((f x).map AV.p).map (renAV d) = _
  rw [List.map_map]; exact List.map_congr_left (fun _ _ => rfl)
theorem natOf_pos {z : Int} (h : 0 ≤ z) : natOf z = some z.toNat := if_pos h
theorem pureRow_lc (t : TypeId) (n : Nat) (l : List α) : pureRow ⟨t, n, lc f l⟩ := fun e he x hx => by
  obtain ⟨y, _, rfl⟩ := List.mem_map.1 he
  obtain ⟨z, _, rfl⟩ := List.mem_map.1 hx
  rfl
theorem fzOk_one {H : OH} {a : Nat} {t : TypeId} {n : Nat} {l : List α} (h : H a = [⟨t, n, lc f l⟩]) : fzOk H a := fun r o ho e he x hx => by
  rw [h] at ho
  cases r with
  | succ r => simp at ho
  | zero => simp at ho; subst ho; exact .inl (pureRow_lc t n l e he x hx)
end
theorem allnil {β : Type} (p : β → Prop) : (∀ e ∈ ([] : List β), p e) = True := by simp
theorem allcons {β : Type} (p : β → Prop) (x : β) (l : List β) : (∀ e ∈ x :: l, p e) = (p x ∧ ∀ e ∈ l, p e) := by simp
theorem ifT {c : Prop} [Decidable c] (h : c) {β : Type} (a b : β) : (if c then a else b) = a := if_pos h
theorem ifF {c : Prop} [Decidable c] (h : ¬ c) {β : Type} (a b : β) : (if c then a else b) = b := if_neg h
theorem decT {c : Prop} [Decidable c] (h : c) : decide c = true := decide_eq_true h
theorem decF {c : Prop} [Decidable c] (h : ¬ c) : decide c = false := decide_eq_false h
def fU (n : Nat) : List PV := [.raw (.int .u32 (n : Int))]
theorem fU_len (n : Nat) : (fU n).length = 1 := rfl
def fI (z : Int) : List PV := [.raw (.int .i64 z)]
def fN (z : Nat) : List PV := [.raw (.int .i64 (z : Int))]
theorem noRef_self {d : Nat} {t : TV} (h : noRefTV t = true) : selfTV d t ∧ renTV 0 t = t := by
  have av : ∀ x, noRefAV x = true → selfAV d x ∧ renAV 0 x = x := fun x hx => by cases x <;> first | exact ⟨trivial, rfl⟩ | cases hx
  cases t with
  | one x => exact ⟨(av x h).1, by simp only [renTV, (av x h).2]⟩
  | agg cs =>
    simp only [noRefTV, List.all_eq_true] at h
    exact ⟨fun x hx => (av x (h x hx)).1, by simp only [renTV]; congr 1; exact (List.map_congr_left fun x hx => (av x (h x hx)).2).trans (List.map_id _)⟩
  | tup ts =>
    simp only [noRefTV, List.all_eq_true] at h
    refine ⟨fun t ht x hx => (av x (h t ht x hx)).1, ?_⟩
    simp only [renTV]
    congr 1
    refine (List.map_congr_left fun t ht => ?_).trans (List.map_id _)
    show (t.1, t.2.map (renAV 0)) = t
    rw [(List.map_congr_left fun x hx => (av x (h t ht x hx)).2).trans (List.map_id t.2)]
theorem lcU_snoc (l : List Nat) (a : Nat) : lc fU l ++ [[AV.p (.raw (.int .u32 (a : Int)))]] = lc fU (l ++ [a]) := by simp [lc, fU]
theorem lcN_snoc (l : List Nat) (a : Nat) : lc fN l ++ [[AV.p (.raw (.int .i64 (a : Int)))]] = lc fN (l ++ [a]) := by simp [lc, fN]
theorem ret_pure {P : Program} {fn : Func} {s : AS} {r : TV} {d : Nat} (hd : s.H d = []) (h : resA P s fn.results.toList = some r) (hp : noRefTV r = true) : RetOk P fn ⟨[], r⟩ s :=
  ⟨r, d, h, (noRef_self hp).1, by rw [hd]; rfl, (noRef_self (d := 0) hp).2.symm⟩
theorem ret_fz {P : Program} {fn : Func} {s : AS} {r : TV} (d : Nat) (hok : fzOk s.H d) (h : resA P ⟨s.tmps.map (fzTV s.H d), updH s.H d []⟩ fn.results.toList = some r) (hp : noRefTV r = true) : ∃ s', Weak s s' ∧ RetOk P fn ⟨[], r⟩ s' :=
  ⟨_, Weak_fz d hok, ret_pure (d := d) (by simp [updH]) h hp⟩
theorem ret_now {P : Program} {fn : Func} {s : AS} {r : TV} (hd : s.H 1000 = []) (h : resA P s fn.results.toList = some r) (hp : noRefTV r = true) : ∃ s', Weak s s' ∧ RetOk P fn ⟨[], r⟩ s' :=
  ⟨_, Weak.refl _, ret_pure hd h hp⟩
end Go.Proofs.YtennjcjjegbhgaaGreat
namespace Go.Proofs.YtennjcjjegbhgaaGreat
theorem ty_agg120 : aggO Tryz.prog 120 = some false := by kernel_rfl
theorem ty_agg147 : aggO Tryz.prog 147 = some true := by kernel_rfl
theorem ty_agg2 : aggO Tryz.prog 2 = some false := by kernel_rfl
theorem ty_agg23 : aggO Tryz.prog 23 = some false := by kernel_rfl
theorem ty_agg24 : aggO Tryz.prog 24 = some false := by kernel_rfl
theorem ty_agg26 : aggO Tryz.prog 26 = some true := by kernel_rfl
theorem ty_agg3 : aggO Tryz.prog 3 = some false := by kernel_rfl
theorem ty_agg4 : aggO Tryz.prog 4 = some false := by kernel_rfl
theorem ty_agg49 : aggO Tryz.prog 49 = some false := by kernel_rfl
theorem ty_agg5 : aggO Tryz.prog 5 = some false := by kernel_rfl
theorem ty_agg51 : aggO Tryz.prog 51 = some true := by kernel_rfl
theorem ty_agg92 : aggO Tryz.prog 92 = some false := by kernel_rfl
theorem ty_bool3 : boolO Tryz.prog 3 = false := by kernel_rfl
theorem ty_bool4 : boolO Tryz.prog 4 = true := by kernel_rfl
theorem ty_by120 : byO Tryz.prog 120 = some 24 := by kernel_rfl
theorem ty_by2 : byO Tryz.prog 2 = some 8 := by kernel_rfl
theorem ty_by23 : byO Tryz.prog 23 = some 24 := by kernel_rfl
theorem ty_by3 : byO Tryz.prog 3 = some 8 := by kernel_rfl
theorem ty_by51 : byO Tryz.prog 51 = some 32 := by kernel_rfl
theorem ty_by92 : byO Tryz.prog 92 = some 4 := by kernel_rfl
theorem ty_fld147_0 : fieldO Tryz.prog 147 0 = some (0, 51) := by kernel_rfl
theorem ty_fld147_1 : fieldO Tryz.prog 147 1 = some (2, 51) := by kernel_rfl
theorem ty_fld26_0 : fieldO Tryz.prog 26 0 = some (0, 5) := by kernel_rfl
theorem ty_fld26_1 : fieldO Tryz.prog 26 1 = some (1, 5) := by kernel_rfl
theorem ty_fld26_2 : fieldO Tryz.prog 26 2 = some (2, 24) := by kernel_rfl
theorem ty_fld51_0 : fieldO Tryz.prog 51 0 = some (0, 4) := by kernel_rfl
theorem ty_fld51_1 : fieldO Tryz.prog 51 1 = some (1, 49) := by kernel_rfl
theorem ty_int2 : intO Tryz.prog 2 = some .i64 := by kernel_rfl
theorem ty_int3 : intO Tryz.prog 3 = some .i64 := by kernel_rfl
theorem ty_int43 : intO Tryz.prog 43 = some .u64 := by kernel_rfl
theorem ty_int5 : intO Tryz.prog 5 = some .u8 := by kernel_rfl
theorem ty_int92 : intO Tryz.prog 92 = some .u32 := by kernel_rfl
theorem ty_plc147 : placesO Tryz.prog 147 = some [(0, 2), (2, 2)] := by kernel_rfl
theorem ty_plc51 : placesO Tryz.prog 51 = some [(0, 1), (1, 1)] := by kernel_rfl
theorem ty_plc69 : placesO Tryz.prog 69 = some [(0, 1), (1, 1)] := by kernel_rfl
theorem ty_slice120 : sliceO Tryz.prog 120 = some 51 := by kernel_rfl
theorem ty_slice156 : sliceO Tryz.prog 156 = some 3 := by kernel_rfl
theorem ty_slice22 : sliceO Tryz.prog 22 = some 23 := by kernel_rfl
theorem ty_slice23 : sliceO Tryz.prog 23 = some 2 := by kernel_rfl
theorem ty_slice49 : sliceO Tryz.prog 49 = some 92 := by kernel_rfl
theorem ty_slice62 : sliceO Tryz.prog 62 = some 120 := by kernel_rfl
theorem ty_sz120 : szO Tryz.prog 120 = some 1 := by kernel_rfl
theorem ty_sz147 : szO Tryz.prog 147 = some 4 := by kernel_rfl
theorem ty_sz2 : szO Tryz.prog 2 = some 1 := by kernel_rfl
theorem ty_sz23 : szO Tryz.prog 23 = some 1 := by kernel_rfl
theorem ty_sz24 : szO Tryz.prog 24 = some 1 := by kernel_rfl
theorem ty_sz26 : szO Tryz.prog 26 = some 4 := by kernel_rfl
theorem ty_sz3 : szO Tryz.prog 3 = some 1 := by kernel_rfl
theorem ty_sz4 : szO Tryz.prog 4 = some 1 := by kernel_rfl
theorem ty_sz49 : szO Tryz.prog 49 = some 1 := by kernel_rfl
theorem ty_sz5 : szO Tryz.prog 5 = some 1 := by kernel_rfl
theorem ty_sz51 : szO Tryz.prog 51 = some 2 := by kernel_rfl
theorem ty_sz92 : szO Tryz.prog 92 = some 1 := by kernel_rfl
theorem ty_zero120 : zeroO Tryz.prog 120 = some [(.slice none 0 0)] := by kernel_rfl
theorem ty_zero147 : zeroO Tryz.prog 147 = some [(.bool false), (.slice none 0 0), (.bool false), (.slice none 0 0)] := by kernel_rfl
theorem ty_zero2 : zeroO Tryz.prog 2 = some [(.int .i64 0)] := by kernel_rfl
theorem ty_zero23 : zeroO Tryz.prog 23 = some [(.slice none 0 0)] := by kernel_rfl
theorem ty_zero3 : zeroO Tryz.prog 3 = some [(.int .i64 0)] := by kernel_rfl
theorem ty_zero51 : zeroO Tryz.prog 51 = some [(.bool false), (.slice none 0 0)] := by kernel_rfl
theorem ty_zero69 : zeroO Tryz.prog 69 = some [(.slice none 0 0), (.int .i64 0)] := by kernel_rfl
theorem ty_zero92 : zeroO Tryz.prog 92 = some [(.int .u32 0)] := by kernel_rfl
theorem mixedA : Tryz.prog.follows .mixedOrders = true := by kernel_rfl
end Go.Proofs.YtennjcjjegbhgaaGreat
namespace Go.Proofs.YtennjcjjegbhgaaGreat
open Go.RowKit
def natV : List Nat → Nat
  | [] => 0
  | a :: l => a + 4294967296 * natV l
def Lmb (l : List Nat) : Prop := ∀ a ∈ l, a < 4294967296
def Can (l : List Nat) : Prop := l.getLast? ≠ some 0
def trimL : List Nat → List Nat
  | [] => []
  | a :: l => match trimL l with
    | [] => if a = 0 then [] else [a]
    | b :: m => a :: b :: m
theorem natV_append (x y : List Nat) : natV (x ++ y) = natV x + 4294967296 ^ x.length * natV y := by
  induction x with
  | nil => simp [natV]
  | cons a l ih => simp [natV, ih, Nat.pow_succ, Nat.mul_add, Nat.mul_assoc, Nat.add_assoc, Nat.mul_comm]
theorem natV_lt {l : List Nat} (h : Lmb l) : natV l < 4294967296 ^ l.length := by
  induction l with
  | nil => simp [natV]
  | cons a l ih =>
    have ha := h a List.mem_cons_self
    have := ih (fun b hb => h b (List.mem_cons_of_mem _ hb))
    rw [List.length_cons, Nat.pow_succ, natV]
    have h2 : 4294967296 * (natV l + 1) ≤ 4294967296 * 4294967296 ^ l.length := Nat.mul_le_mul_left _ this
    rw [Nat.mul_comm (4294967296 ^ l.length)]
    omega
theorem natV_trim (l : List Nat) : natV (trimL l) = natV l := by
  induction l with
  | nil => rfl
  | cons a l ih =>
    unfold trimL
    split
    · rename_i h
      rw [h] at ih
      simp [natV] at ih
      split
      · rename_i h0; simp [natV, ← ih, h0]
      · simp [natV, ← ih]
    · rename_i b m h
      rw [h] at ih
      simp [natV, ← ih]
theorem trim_can (l : List Nat) : Can (trimL l) := by
  induction l with
  | nil => simp [Can, trimL]
  | cons a l ih =>
    unfold trimL
    split
    · split
      · simp [Can]
      · rename_i h0; simp [Can, h0]
    · rename_i b m h
      rw [h] at ih
      unfold Can at *
      rw [List.getLast?_cons_cons]; exact ih
theorem trim_len (l : List Nat) : (trimL l).length ≤ l.length := by
  induction l with
  | nil => simp [trimL]
  | cons a l ih =>
    unfold trimL
    split
    · split <;> simp
    · rename_i b m h; rw [h] at ih; simp at ih ⊢; omega
theorem can_cons {a : Nat} {l : List Nat} (h : Can (a :: l)) : Can l := by
  cases l with
  | nil => simp [Can]
  | cons b m => unfold Can at *; rw [List.getLast?_cons_cons] at h; exact h
theorem trim_of_can {l : List Nat} (h : Can l) : trimL l = l := by
  induction l with
  | nil => rfl
  | cons a l ih =>
    have e := ih (can_cons h)
    unfold trimL
    rw [e]
    cases l with
    | nil => simp [Can] at h; simp [h]
    | cons b m => rfl
theorem trim_snoc_zero (l : List Nat) : trimL (l ++ [0]) = trimL l := by
  induction l with
  | nil => simp [trimL]
  | cons a l ih => rw [List.cons_append, trimL, ih]; rfl
theorem trim_snoc {l : List Nat} {a : Nat} (h : a ≠ 0) : trimL (l ++ [a]) = l ++ [a] := trim_of_can (by simp [Can, h])
theorem trim_lmb {l : List Nat} (h : Lmb l) : Lmb (trimL l) := by
  induction l with
  | nil => exact h
  | cons a l ih =>
    have ih := ih (fun b hb => h b (List.mem_cons_of_mem _ hb))
    unfold trimL
    split
    · split
      · intro b hb; simp at hb
      · intro b hb; simp at hb; subst hb; exact h _ List.mem_cons_self
    · rename_i b m hh
      rw [hh] at ih
      intro c hc
      rcases List.mem_cons.1 hc with rfl | hc
      · exact h _ List.mem_cons_self
      · exact ih c hc
theorem can_ge {l : List Nat} (h : Can l) (hne : l ≠ []) : 4294967296 ^ (l.length - 1) ≤ natV l := by
  induction l with
  | nil => exact absurd rfl hne
  | cons a l ih =>
    cases l with
    | nil => simp [Can] at h; simp [natV]; omega
    | cons b m =>
      have := ih (can_cons h) (by simp)
      simp only [List.length_cons, Nat.add_sub_cancel] at this ⊢
      rw [natV, Nat.pow_succ, Nat.mul_comm (4294967296 ^ m.length)]
      have h2 := Nat.mul_le_mul_left 4294967296 this
      omega
theorem can_len_le {l : List Nat} {k : Nat} (h : Can l) (hv : natV l < 4294967296 ^ k) : l.length ≤ k := by
  by_cases hne : l = []
  · subst hne; simp
  · have := can_ge h hne
    have h2 : 4294967296 ^ (l.length - 1) < 4294967296 ^ k := Nat.lt_of_le_of_lt this hv
    have := (Nat.pow_lt_pow_iff_right (by omega : 1 < 4294967296)).1 h2
    omega
theorem can_inj {l m : List Nat} (hl : Lmb l) (hm : Lmb m) (cl : Can l) (cm : Can m) (h : natV l = natV m) : l = m := by
  induction l generalizing m with
  | nil =>
    cases m with
    | nil => rfl
    | cons b m =>
      have := can_ge cm (by simp)
      have : 0 < 4294967296 ^ ((b :: m).length - 1) := Nat.pow_pos (by omega)
      rw [← h] at *
      simp [natV] at *
  | cons a l ih =>
    cases m with
    | nil =>
      have := can_ge cl (by simp)
      have : 0 < 4294967296 ^ ((a :: l).length - 1) := Nat.pow_pos (by omega)
      rw [h] at *
      simp [natV] at *
    | cons b m =>
      have ha := hl a List.mem_cons_self
      have hb := hm b List.mem_cons_self
      simp only [natV] at h
      have e1 : a = b := by omega
      have e2 : natV l = natV m := by omega
      rw [e1, ih (fun c hc => hl c (List.mem_cons_of_mem _ hc)) (fun c hc => hm c (List.mem_cons_of_mem _ hc)) (can_cons cl) (can_cons cm) e2]
def RdU (w : World) (A : Option Addr) (l : List Nat) : Prop := RdI .u32 w A (l.map fun n : Nat => (n : Int))
theorem RdU.ext {w w' : World} {A : Option Addr} {l : List Nat} (h : RdU w A l) (e : Ext w w') : RdU w' A l := RdI.ext h e
theorem RdU.nil (w : World) (A : Option Addr) : RdU w A [] := RdI.nil _ _ _
theorem RdU.at_ {w : World} {A : Option Addr} {l : List Nat} (h : RdU w A l) {i z : Nat} (hi : l[i]? = some z) :
    ∃ b off, A = some ⟨b, off, none⟩ ∧ w.cell? ⟨b, off + i, none⟩ = some (.int .u32 (z : Int)) := RdI.at_ h (by simp [hi])
def sgn (neg : Bool) (n : Nat) : Int := if neg then -(n : Int) else n
def IntV (w : World) (v : Value) (z : Int) (k : Nat) : Prop :=
  ∃ neg A c l, v = .agg #[.bool neg, .slice A l.length c] ∧ l.length ≤ c ∧ RdU w A l ∧ Lmb l ∧ Can l ∧ z = sgn neg (natV l) ∧ l.length ≤ k ∧ (l = [] → neg = false)
theorem IntV.ext {w w' : World} {v : Value} {z : Int} {k : Nat} (h : IntV w v z k) (e : Ext w w') : IntV w' v z k := by
  obtain ⟨neg, A, c, l, h1, h2, h3, h4⟩ := h
  exact ⟨neg, A, c, l, h1, h2, h3.ext e, h4⟩
theorem IntV.mono {w : World} {v : Value} {z : Int} {k k' : Nat} (h : IntV w v z k) (e : k ≤ k') : IntV w v z k' := by
  obtain ⟨neg, A, c, l, h1, h2, h3, h4, h5, h6, h7, h8⟩ := h
  exact ⟨neg, A, c, l, h1, h2, h3, h4, h5, h6, by omega, h8⟩
theorem IntV.zero (w : World) (k : Nat) : IntV w (.agg #[.bool false, .slice none 0 0]) 0 k :=
  ⟨false, none, 0, [], rfl, by simp, RdU.nil _ _, by intro a h; simp at h, by simp [Can], rfl, by simp, fun _ => rfl⟩
end Go.Proofs.YtennjcjjegbhgaaGreat
namespace Go.Proofs.YtennjcjjegbhgaaGreat
open Go.RowKit
theorem isNaN_any (a : Int) (w : World) :
    Calls Tryz.prog 133 #[.int .i64 a] w fun e w' => e = .returned (.bool false) ∧ w = w' := by
  go_enter Tryz.func133, Tryz.ntmps133
  go_wp2
  go_ret
  exact ⟨by simp, rfl⟩
def cmpI (a b : Int) : Int := if a < b then -1 else if b < a then 1 else 0
set_option maxHeartbeats 400000 in
theorem cmpCompare_any (a b : Int) (w : World) :
    Calls Tryz.prog 95 #[.int .i64 a, .int .i64 b] w fun e w' => e = .returned (.int .i64 (cmpI a b)) ∧ w = w' := by
  go_enter Tryz.func95, Tryz.ntmps95
  go_wp2_with (go_at_call 133; refine (isNaN_any _ _).mono ?_; rintro e w' ⟨rfl, rfl⟩)
  all_goals
    go_ret
    exact ⟨ret_int (by unfold cmpI; (repeat' split) <;> omega), rfl⟩
def cmpL : List Int → List Int → Int
  | [], [] => 0
  | [], _ :: _ => -1
  | _ :: _, [] => 1
  | a :: x, b :: y => if a < b then -1 else if b < a then 1 else cmpL x y
theorem cmpL_drop {x y : List Int} {k : Nat} {a b : Int} (ha : x[k]? = some a) (hb : y[k]? = some b) :
    cmpL (x.drop k) (y.drop k) = if a < b then -1 else if b < a then 1 else cmpL (x.drop (k + 1)) (y.drop (k + 1)) := by
  obtain ⟨h1, rfl⟩ := List.getElem?_eq_some_iff.1 ha
  obtain ⟨h2, rfl⟩ := List.getElem?_eq_some_iff.1 hb
  rw [List.drop_eq_getElem_cons h1, List.drop_eq_getElem_cons h2]
  rfl
theorem cmpL_left {x y : List Int} {k : Nat} (h1 : k ≥ x.length) (h2 : k < y.length) : cmpL (x.drop k) (y.drop k) = -1 := by
  rw [List.drop_of_length_le h1, List.drop_eq_getElem_cons h2]; rfl
theorem cmpL_right {x y : List Int} {k : Nat} (h1 : k < x.length) (h2 : k ≥ y.length) : cmpL (x.drop k) (y.drop k) = 1 := by
  rw [List.drop_of_length_le h2, List.drop_eq_getElem_cons h1]; rfl
theorem cmpL_both {x y : List Int} {k : Nat} (h1 : k ≥ x.length) (h2 : k ≥ y.length) : cmpL (x.drop k) (y.drop k) = 0 := by
  rw [List.drop_of_length_le h1, List.drop_of_length_le h2]; rfl
theorem cmpI_ne {a b : Int} {r : Int} (h : (cmpI a b != 0) = true) : cmpI a b = if a < b then -1 else if b < a then 1 else r := by
  unfold cmpI at *; (repeat' split) <;> simp_all
theorem cmpI_eq {a b : Int} {r : Int} (h : (cmpI a b != 0) = false) : (if a < b then -1 else if b < a then 1 else r) = r := by
  unfold cmpI at *; (repeat' split) <;> simp_all
theorem ne_lt {a b : Int} {r : Int} (h : (a != b) = true) (h' : a < b) : -1 = if a < b then -1 else if b < a then 1 else r := by simp [h']
theorem ne_gt {a b : Int} {r : Int} (h : (a != b) = true) (h' : ¬ a < b) : 1 = if a < b then -1 else if b < a then 1 else r := by
  have : a ≠ b := by simpa using h
  rw [if_neg h', if_pos (by omega)]
theorem eq_next {a b : Int} {r : Int} (h : (a != b) = false) : (if a < b then -1 else if b < a then 1 else r) = r := by
  have : a = b := by simpa using h
  rw [if_neg (by omega), if_neg (by omega)]
set_option maxHeartbeats 400000 in
theorem slicesCompare_any (A B : Option Addr) (c d : Nat) (x y : List Int) (w : World) (hx : RdI .i64 w A x) (hy : RdI .i64 w B y) (lx : x.length ≤ 9223372036854775807) (ly : y.length ≤ 9223372036854775807) :
    Calls Tryz.prog 134 #[.slice A x.length c, .slice B y.length d] w fun e w' => e = .returned (.int .i64 (cmpL x y)) ∧ w = w' := by
  have HX := Lib.hid hx
  have HY := Lib.hid hy
  clear hx hy
  go_enter Tryz.func134, Tryz.ntmps134
  go_wp2_with fail
  go_loop [11, 5, 6, 7, 8] (fun i _ _ _ _ => ∃ k : Nat, k ≤ x.length ∧ i = .int .i64 k ∧ Hid (cmpL (x.drop k) (y.drop k) = cmpL x y)) (fun i _ _ _ _ => x.length - (intOf i).toNat)
  case atStart => exact ⟨0, Nat.zero_le _, rfl, Lib.hid rfl⟩
  case round =>
    obtain ⟨k, hk, rfl, HR⟩ := hrel
    by_cases hlt : k < x.length
    · obtain ⟨a, ha⟩ := getElem?_of_lt hlt
      obtain ⟨b, off, rfl, hc⟩ := HX.out.at_ ha
      have HA := Lib.hid ha
      clear ha
      by_cases hly : k < y.length
      · obtain ⟨a', ha'⟩ := getElem?_of_lt hly
        obtain ⟨b', off', rfl, hc'⟩ := HY.out.at_ ha'
        have HA' := Lib.hid ha'
        clear ha'
        have hD := Lib.hid (cmpL_drop HA.out HA'.out)
        go_wp2_with (go_at_call 95; refine (cmpCompare_any _ _ _).mono ?_; rintro e w' ⟨rfl, rfl⟩)
        · go_ret
          have hne : (cmpI a a' != 0) = true := by assumption
          exact ⟨ret_int (by rw [← HR.out, hD.out]; exact cmpI_ne hne), rfl⟩
        · go_round
          case rel =>
            have he : (cmpI a a' != 0) = false := by assumption
            exact ⟨k + 1, by omega, by go_num, Lib.hid (by rw [← HR.out, hD.out]; exact (cmpI_eq he).symm)⟩
          case measure => simp [intOf]; omega
      · go_wp2_with fail
        go_ret
        exact ⟨ret_int (by rw [← HR.out, cmpL_right hlt (by omega)]), rfl⟩
    · have hk' : k = x.length := by omega
      subst hk'
      go_wp2_with fail
      all_goals
        go_ret
        exact ⟨ret_int (by rw [← HR.out]; first | rw [cmpL_left (by omega) (by omega)] | rw [cmpL_both (by omega) (by omega)]), rfl⟩
theorem refCompare_any (A B : Option Addr) (c d : Nat) (x y : List Int) (w : World) (hx : RdI .i64 w A x) (hy : RdI .i64 w B y) (lx : x.length ≤ 9223372036854775807) (ly : y.length ≤ 9223372036854775807) :
    Calls Tryz.prog 26 #[.slice A x.length c, .slice B y.length d] w fun e w' => e = .returned (.int .i64 (cmpL x y)) ∧ ∃ n, w' = w.drewN n := by
  have HX := Lib.hid hx
  have HY := Lib.hid hy
  clear hx hy
  go_enter Tryz.func26, Tryz.ntmps26
  go_wp2_with fail
  go_loopw [5] (fun i wr => ∃ k n : Nat, k ≤ x.length ∧ k ≤ y.length ∧ i = .int .i64 k ∧ wr = w.drewN n ∧ Hid (cmpL (x.drop k) (y.drop k) = cmpL x y)) (fun i _ => x.length - (intOf i).toNat)
  case atStart => exact ⟨0, 0, Nat.zero_le _, Nat.zero_le _, rfl, rfl, Lib.hid rfl⟩
  case round =>
    obtain ⟨k, n, hk, hky, rfl, rfl, HR⟩ := hrel
    by_cases hlt : k < x.length
    · obtain ⟨a, ha⟩ := getElem?_of_lt hlt
      obtain ⟨b, off, rfl, hc⟩ := HX.out.at_ ha
      have HA := Lib.hid ha
      clear ha
      by_cases hly : k < y.length
      · obtain ⟨a', ha'⟩ := getElem?_of_lt hly
        obtain ⟨b', off', rfl, hc'⟩ := HY.out.at_ ha'
        have HA' := Lib.hid ha'
        clear ha'
        have hD := Lib.hid (cmpL_drop HA.out HA'.out)
        go_wp2_with fail
        go_quiet (fail)
        go_wp2_with fail
        · go_quiet (fail)
          have hne : (a != a') = true := by assumption
          go_wp2_with fail
          all_goals
            go_ret
            exact ⟨ret_int (by rw [← HR.out, hD.out]; first | exact ne_lt hne (by omega) | exact ne_gt hne (by omega)), _, by rw [World.drewN_drewN, World.drewN_drewN]⟩
        · have he : (a != a') = false := by assumption
          go_roundw
          case rel => exact ⟨k + 1, _, by omega, by omega, by go_num, rfl, Lib.hid (by rw [← HR.out, hD.out]; exact (eq_next he).symm)⟩
          case measure => simp [intOf]; omega
      · go_wp2_with fail
        all_goals
          go_ret
          exact ⟨ret_int (by rw [← HR.out, cmpL_right hlt (by omega)]), _, rfl⟩
    · by_cases hly : k < y.length
      · go_wp2_with fail
        all_goals
          go_ret
          exact ⟨ret_int (by rw [← HR.out, cmpL_left (by omega) (by omega)]), _, rfl⟩
      · go_wp2_with fail
        all_goals
          go_ret
          exact ⟨ret_int (by rw [← HR.out, cmpL_both (by omega) (by omega)]), _, rfl⟩
theorem vecCompare_any (A B : Option Addr) (c d : Nat) (x y : List Int) (w : World) (hx : RdI .i64 w A x) (hy : RdI .i64 w B y) (lx : x.length ≤ 9223372036854775807) (ly : y.length ≤ 9223372036854775807) :
    Calls Tryz.prog 96 #[.slice A x.length c, .slice B y.length d] w fun e w' => e = .returned (.int .i64 (cmpL x y)) ∧ w = w' := by
  go_enter Tryz.func96, Tryz.ntmps96
  go_wp2_with (go_at_call 134; refine (slicesCompare_any A B c d x y _ hx hy lx ly).mono ?_; rintro e w' ⟨rfl, rfl⟩)
  go_ret
  exact ⟨rfl, rfl⟩
end Go.Proofs.YtennjcjjegbhgaaGreat
namespace Go.Proofs.YtennjcjjegbhgaaGreat
open Go.RowKit
def orL : List Int → Int
  | [] => 0
  | a :: l => if a != 0 then a else orL l
theorem orL_drop {x : List Int} {k : Nat} {a : Int} (h : x[k]? = some a) : orL (x.drop k) = if a != 0 then a else orL (x.drop (k + 1)) := by
  obtain ⟨h1, rfl⟩ := List.getElem?_eq_some_iff.1 h
  rw [List.drop_eq_getElem_cons h1]
  rfl
set_option maxHeartbeats 400000 in
theorem cmpOr_any (A : Option Addr) (c : Nat) (x : List Int) (w : World) (hx : RdI .i64 w A x) (lx : x.length ≤ 9223372036854775807) :
    Calls Tryz.prog 94 #[.slice A x.length c] w fun e w' => e = .returned (.int .i64 (orL x)) ∧ w = w' := by
  have HX := Lib.hid hx
  clear hx
  go_enter Tryz.func94, Tryz.ntmps94
  go_wp2_with fail
  go_loop [8, 5] (fun i _ => ∃ k : Nat, k ≤ x.length ∧ i = .int .i64 k ∧ Hid (orL (x.drop k) = orL x)) (fun i _ => x.length - (intOf i).toNat)
  case atStart => exact ⟨0, Nat.zero_le _, rfl, Lib.hid rfl⟩
  case round =>
    obtain ⟨k, hk, rfl, HR⟩ := hrel
    by_cases hlt : k < x.length
    · obtain ⟨a, ha⟩ := getElem?_of_lt hlt
      obtain ⟨b, off, rfl, hc⟩ := HX.out.at_ ha
      have HA := Lib.hid (orL_drop ha)
      clear ha
      by_cases h0 : (a != 0) = true
      · go_wp2_with fail
        go_ret
        exact ⟨ret_int (by rw [← HR.out, HA.out, if_pos h0]), rfl⟩
      · have h0' : (a != 0) = false := by simpa using h0
        have H0 := Lib.hid h0'
        clear h0
        go_wp2_with fail
        go_round
        case rel => exact ⟨k + 1, by omega, by go_num, Lib.hid (by rw [← HR.out, HA.out, if_neg (by rw [H0.out]; simp)])⟩
        case measure => simp [intOf]; omega
    · go_wp2_with fail
      go_ret
      exact ⟨ret_int (by rw [← HR.out, List.drop_of_length_le (by omega)]; rfl), rfl⟩
theorem cmpCompare_same (a b : Int) (w : World) :
    Calls Tryz.prog 95 #[.int .i64 a, .int .i64 b] w fun e w' => e = .returned (.int .i64 (cmpI a b)) ∧ w' = w :=
  (cmpCompare_any a b w).mono fun _ _ ⟨h1, h2⟩ => ⟨h1, h2.symm⟩
theorem vecCompare_same (A B : Option Addr) (c d : Nat) (x y : List Int) (w : World) (hx : RdI .i64 w A x) (hy : RdI .i64 w B y) (lx : x.length ≤ 9223372036854775807) (ly : y.length ≤ 9223372036854775807) :
    Calls Tryz.prog 96 #[.slice A x.length c, .slice B y.length d] w fun e w' => e = .returned (.int .i64 (cmpL x y)) ∧ w' = w :=
  (vecCompare_any A B c d x y w hx hy lx ly).mono fun _ _ ⟨h1, h2⟩ => ⟨h1, h2.symm⟩
def cmpN (k1 : Int) (x : List Int) (k2 : Int) (y : List Int) : Int := orL [cmpI k1 k2, cmpL x y]
theorem region_still_tail {P : Program} {id : Nat} {Q : Exit → Act → World → Prop} {a : Act} {w : World} {l : List Oper} (n : Nat) (hm : P.follows .mixedOrders = true) (hB : Region.lexTailB .any l.toArray n = true)
    (h : wpStill P l.toArray w.drew (fun a' => wpList P l.toArray Q (l.drop n) a' w.drew) (l.take n) a) : (Code.region id l.toArray true).wp P Q a w := wp_region_still_tail n hm hB h
theorem grow_alloc (w : World) (os : Array Obj) (o : Obj) : (Sort.grow w os).alloc o = Sort.grow w (os.push o) := by
  unfold Sort.grow World.alloc; simp
theorem grow_two (w : World) (a b : Obj) : ((w.alloc a).alloc b).drew = Sort.grow (w.drewN 1) #[a, b] := by
  unfold Sort.grow
  rw [show (w.drewN 1).heap ++ #[a, b] = (w.heap.push a).push b from by
    show w.heap ++ #[a, b] = _
    apply Array.ext'
    simp]
  rfl
theorem two_boxes (w : World) (a b c d : Value) (t : TypeId) :
    ((w.alloc (.cells #[a, b] t)).alloc (.cells #[c, d] t)).drew.cell? ⟨w.heap.size, 0, none⟩ = some a ∧ ((w.alloc (.cells #[a, b] t)).alloc (.cells #[c, d] t)).drew.cell? ⟨w.heap.size, 1, none⟩ = some b ∧
    ((w.alloc (.cells #[a, b] t)).alloc (.cells #[c, d] t)).drew.cell? ⟨w.heap.size + 1, 0, none⟩ = some c ∧ ((w.alloc (.cells #[a, b] t)).alloc (.cells #[c, d] t)).drew.cell? ⟨w.heap.size + 1, 1, none⟩ = some d ∧
    Ext w ((w.alloc (.cells #[a, b] t)).alloc (.cells #[c, d] t)).drew ∧ ∃ os, ((w.alloc (.cells #[a, b] t)).alloc (.cells #[c, d] t)).drew = Sort.grow (w.drewN 1) os :=
  ⟨by go_simp, by go_simp, by go_simp, by go_simp, (((Ext.refl _).alloc _).alloc _).drew, _, grow_two w _ _⟩
set_option maxRecDepth 100000 in
set_option maxHeartbeats 1000000 in
theorem compareByNorm_any (k1 k2 : Int) (A B : Option Addr) (c d : Nat) (x y : List Int) (w : World) (hx : RdI .i64 w A x) (hy : RdI .i64 w B y) (lx : x.length ≤ 9223372036854775807) (ly : y.length ≤ 9223372036854775807) :
    Calls Tryz.prog 51 #[.agg #[.int .i64 k1, .slice A x.length c], .agg #[.int .i64 k2, .slice B y.length d]] w fun e w' =>
      e = .returned (.int .i64 (cmpN k1 x k2 y)) ∧ ∃ q os, w' = Sort.grow (w.drewN q) os := by
  have HX := Lib.hid hx
  have HY := Lib.hid hy
  clear hx hy
  go_enter Tryz.func51, Tryz.ntmps51
  go_wp2_with fail
  obtain ⟨c1, c2, c3, c4, he, hg⟩ := two_boxes w (.int .i64 k1) (.slice A x.length c) (.int .i64 k2) (.slice B y.length d) 83
  have HE := Lib.hid he
  have HG := Lib.hid hg
  clear he hg
  generalize (w.alloc (.cells #[.int .i64 k1, .slice A x.length c] 83)).alloc (.cells #[.int .i64 k2, .slice B y.length d] 83) = w2 at *
  refine region_still_tail 10 (by kernel_rfl) (by kernel_rfl) ?_
  simp only [List.take_succ_cons, List.take_zero, List.drop_succ_cons, List.drop_zero]
  generalize w2.drew = w3 at *
  iterate 4 still_step
  still_call (cmpCompare_same _ _ _)
  iterate 4 still_step
  still_call (vecCompare_same A B c d x y _ (HX.out.ext HE.out) (HY.out.ext HE.out) lx ly)
  refine wpStill_nil ?_
  have hor := cmpOr_any (some ⟨w3.heap.size, 0, none⟩) 2 [cmpI k1 k2, cmpL x y] (w3.alloc (.cells #[.int .i64 (cmpI k1 k2), .int .i64 (cmpL x y)] 3)) (fun _ => ⟨w3.heap.size, 0, rfl, fun i v hv => by
    match i, hv with
    | 0, hv => simp at hv; subst hv; go_simp
    | 1, hv => simp at hv; subst hv; go_simp⟩) (by simp)
  rw [show [cmpI k1 k2, cmpL x y].length = 2 from rfl] at hor
  have HOR := Lib.hid hor
  clear hor
  go_wp2_with fail
  refine HOR.out.mono ?_
  rintro e w' ⟨rfl, rfl⟩
  go_wp2_with fail
  go_ret
  obtain ⟨os, rfl⟩ := HG.out
  exact ⟨rfl, 1, _, grow_alloc _ _ _⟩
end Go.Proofs.YtennjcjjegbhgaaGreat
namespace Go.Proofs.YtennjcjjegbhgaaGreat
open Go.RowKit
def sg (z : Int) : Int := if z < 0 then -1 else if z = 0 then 0 else 1
theorem two_limbs (u : Nat) : natV [u % 4294967296, u / 4294967296] = u := by simp [natV]; omega
end Go.Proofs.YtennjcjjegbhgaaGreat
namespace Go.Proofs.YtennjcjjegbhgaaGreat
open Go.RowKit
def cmpU (a b : Nat) : Int := if a < b then -1 else if a = b then 0 else 1
theorem natV_split {l : List Nat} {k a : Nat} (h : l[k]? = some a) : natV l = natV (l.take k) + 4294967296 ^ k * (a + 4294967296 * natV (l.drop (k + 1))) := by
  have hk := (List.getElem?_eq_some_iff.1 h).1
  conv => lhs; rw [← List.take_append_drop k l]
  rw [natV_append, List.length_take, Nat.min_eq_left (by omega), List.drop_eq_getElem_cons hk, natV, (List.getElem?_eq_some_iff.1 h).2]
theorem lmb_take {l : List Nat} (h : Lmb l) (k : Nat) : Lmb (l.take k) := fun a ha => h a (List.mem_of_mem_take ha)
theorem natV_lt_of {l m : List Nat} {k a b : Nat} (hl : Lmb l) (ha : l[k]? = some a) (hb : m[k]? = some b) (hd : l.drop (k + 1) = m.drop (k + 1)) (hab : a < b) : natV l < natV m := by
  have hk := (List.getElem?_eq_some_iff.1 ha).1
  rw [natV_split ha, natV_split hb, hd]
  have h1 := natV_lt (lmb_take hl k)
  rw [List.length_take, Nat.min_eq_left (by omega)] at h1
  have h2 : 4294967296 ^ k * (a + 1 + 4294967296 * natV (m.drop (k + 1))) ≤ 4294967296 ^ k * (b + 4294967296 * natV (m.drop (k + 1))) := Nat.mul_le_mul_left _ (by omega)
  have e : 4294967296 ^ k * (a + 1 + 4294967296 * natV (m.drop (k + 1))) = 4294967296 ^ k + 4294967296 ^ k * (a + 4294967296 * natV (m.drop (k + 1))) := by grind
  omega
theorem natV_lt_len {l m : List Nat} (hl : Lmb l) (hm : Can m) (h : l.length < m.length) : natV l < natV m := by
  have h1 := natV_lt hl
  have h2 := can_ge hm (by intro e; rw [e] at h; simp at h)
  have h3 : 4294967296 ^ l.length ≤ 4294967296 ^ (m.length - 1) := Nat.pow_le_pow_right (by omega) (by omega)
  omega
theorem cmpU_lt {a b : Nat} (h : a < b) : cmpU a b = -1 := by simp [cmpU, h]
theorem cmpU_gt {a b : Nat} (h : b < a) : cmpU a b = 1 := by unfold cmpU; rw [if_neg (by omega), if_neg (by omega)]
theorem drop_snoc {l m : List Nat} {k a : Nat} (ha : l[k]? = some a) (hb : m[k]? = some a) (hd : l.drop (k + 1) = m.drop (k + 1)) : l.drop k = m.drop k := by
  obtain ⟨h1, rfl⟩ := List.getElem?_eq_some_iff.1 ha
  obtain ⟨h2, h3⟩ := List.getElem?_eq_some_iff.1 hb
  rw [List.drop_eq_getElem_cons h1, List.drop_eq_getElem_cons h2, hd, h3]
end Go.Proofs.YtennjcjjegbhgaaGreat
namespace Go.Proofs.YtennjcjjegbhgaaGreat
open Go.RowKit
theorem kc : (∀ (P : Program) (items : List (Item P)) (ow : List Nat) (s : AS) (Q : AS → Prop), runS P items ow [] (some s) Q = Q s) ∧
    (∀ (P : Program) (items : List (Item P)) (ow : List Nat) (st : Stp) (l : List Stp) (s : AS) (Q : AS → Prop), runS P items ow (st :: l) (some s) Q = runS P items ow l (stepS P items ow st s) Q) ∧
    (∀ {P : Program} {items : List (Item P)} {ow : List Nat} {i : Nat} {d : Option Tmp} {s : AS} (x : Operand), stepS P items ow ⟨i, d, .move x, none⟩ s = (s.ev x).map (s.put d)) ∧
    (∀ {P : Program} {items : List (Item P)} {ow : List Nat} {i : Nat} {d : Option Tmp} {s : AS} (x : Operand), stepS P items ow ⟨i, d, .assign x, none⟩ s = (s.ev x).map (s.put d)) ∧
    (∀ {P : Program} {items : List (Item P)} {ow : List Nat} {i : Nat} {d : Option Tmp} {s : AS} (op : BinOp) (t t' : TypeId) (x y : Operand), stepS P items ow ⟨i, d, .binOp op t x y t', none⟩ s = (effM P s.ev (.binOp op t x y t')).map (s.put d)) ∧
    (∀ {P : Program} {items : List (Item P)} {ow : List Nat} {i : Nat} {d : Option Tmp} {s : AS} (t : TypeId) (x : Operand), stepS P items ow ⟨i, d, .load t x, none⟩ s = (effR P s.ev s.H (.load t x)).map (s.put d)) ∧
    (∀ {α : Type} {a : α} {l : List α}, (a :: l)[0]? = some a) ∧
    (∀ {α : Type} {a : α} {i : Nat} {l : List α}, (a :: l)[i + 1]? = l[i]?) ∧
    (∀ {α : Type} {x : α} {xs : List α} {a : α}, (x :: xs).set 0 a = a :: xs) ∧
    (∀ {α : Type} {x : α} {xs : List α} {i : Nat} {a : α}, (x :: xs).set (i + 1) a = x :: xs.set i a) ∧
    (∀ {α β : Type} {f : α → β}, List.map f [] = []) ∧
    (∀ {α β : Type} {f : α → β} {a : α} {l : List α}, List.map f (a :: l) = f a :: List.map f l) ∧
    (∀ {α β : Type} (a : α) (f : α → β), Option.map f (some a) = some (f a)) ∧
    (∀ {α : Type} {a : α} {l : List α} {f : α → Bool}, (a :: l).all f = (f a && l.all f)) ∧
    (∀ {α : Type} {f : α → Bool}, ([] : List α).all f = true) ∧
    (∀ {α : Type} {a : α} {xs : List α}, (a :: xs).length = xs.length + 1) ∧
    (∀ {α : Type}, ([] : List α).length = 0) ∧
    (∀ n : Nat, 0 + n = n) ∧
    (∀ b : Bool, (b && b) = b) ∧
    (∀ {α : Type} {_ : Decidable True} (t e : α), (if True then t else e) = t) ∧
    (∀ {α : Type} {_ : Decidable False} (t e : α), (if False then t else e) = e) ∧
    (∀ {α : Type} (xs : List α), [] ++ xs = xs) ∧
    (∀ {α : Type} {a : α} {xs ys : List α}, a :: xs ++ ys = a :: (xs ++ ys)) ∧
    (∀ {α : Type} (xs : List α), xs ++ [] = xs) ∧
    (∀ {α β : Type} (a : α) (f : α → Option β), (some a).bind f = f a) ∧
    (∀ {α : Type}, ([] : List α).isEmpty = true) ∧
    ((!true) = false) ∧
    (∀ {α : Type} {l : List α}, List.drop 0 l = l) ∧
    (∀ {α : Type} {l : List α}, List.take 0 l = []) ∧
    (∀ {α : Type} {a : α} {l : List α} {i : Nat}, List.drop (i + 1) (a :: l) = List.drop i l) ∧
    (∀ {α : Type} {a : α} {l : List α} {i : Nat}, List.take (i + 1) (a :: l) = a :: List.take i l) ∧
    (∀ b : Bool, (b || true) = true) ∧
    (∀ p : Prop, (p ∧ p) = p) ∧
    (∀ p : Prop, (True ∧ p) = p) ∧
    (∀ b : Bool, (b && true) = b) ∧
    (∀ b : Bool, (b && false) = false) ∧
    (∀ {α : Type} [BEq α] [ReflBEq α] (a : α), (a == a) = true) ∧
    ((false = true) = False) ∧
    (∀ {α : Type} {xs : List α} {i : Nat}, xs.toArray[i]? = xs[i]?) ∧
    (∀ n : Nat, (n : Int).toNat = n) ∧
    (∀ (ops : Array Oper) (x : Nat), prepL ops [] x = []) ∧
    (∀ (ops : Array Oper) (x : Nat) (o : Oper) (l : List Oper), prepL ops (o :: l) x = prep1 ops o x :: prepL ops l (x + 1)) ∧
    (∀ (s : AS) (t : Tmp), s.ev (.tmp t) = s.tmps[t]?) ∧
    (∀ (s : AS) (v : Value), s.ev (.const v) = some (ofConst v)) ∧
    (∀ (s : AS) (g : Nat), s.ev (.global g) = some (.raw (.pointer (some ⟨g, 0, none⟩)))) ∧
    (∀ (s : AS) (f : FuncId), s.ev (.func f) = some (.raw (.func (.func f) #[] #[]))) ∧
    (∀ (s : AS) (d : Tmp) (t : TV), s.put (some d) t = { s with tmps := s.tmps.set d t }) ∧
    (∀ (s : AS) (t : TV), s.put none t = s) :=
  ⟨@runS_nil, @runS_cons, @opS_move, @opS_assign, @opS_bin, @opS_load, @List.getElem?_cons_zero, @List.getElem?_cons_succ, @List.set_cons_zero, @List.set_cons_succ, @List.map_nil, @List.map_cons, @Option.map_some, @List.all_cons, @List.all_nil, @List.length_cons, @List.length_nil, @Nat.zero_add, @Bool.and_self, @if_true, @if_false, @List.nil_append, @List.cons_append, @List.append_nil, @Option.bind_some, @List.isEmpty_nil, @Bool.not_true, @List.drop_zero, @List.take_zero, @List.drop_succ_cons, @List.take_succ_cons, @Bool.or_true, @and_self, @true_and, @Bool.and_true, @Bool.and_false, @beq_self_eq_true, @Bool.false_eq_true, @List.getElem?_toArray, @Int.toNat_natCast, by intros; rfl, by intros; rfl, by intros; rfl, by intros; rfl, by intros; rfl, by intros; rfl, by intros; rfl, by intros; rfl⟩
abbrev jk : TV := .one .junk
end Go.Proofs.YtennjcjjegbhgaaGreat
namespace Go.Proofs.YtennjcjjegbhgaaGreat
open Go.RowKit
abbrev slU (l : List Nat) : TV := .one (.p (.sl (ls fU l)))
set_option maxRecDepth 100000 in
set_option maxHeartbeats 1000000 in
theorem trim_C (l : List Nat) (hb : l.length ≤ 1073741824) : CallC Tryz.prog 58 [slU l] ⟨[], slU (trimL l)⟩ := by
  refine callC_of Tryz.func58 rfl (by kernel_rfl) ?_; rw [Tryz.ntmps58]
  (refine WpA_sreg [] [] (by simp) fun K hK => ?_; simp (disch := omega) only [kc, prep1, List.replicate, ofConst, Value.oneCell']; (with_reducible refine hK _ ?_))
  (refine WpA_sreg [] [] (by simp) fun K hK => ?_; simp (disch := omega) only [kc, prep1, Nat.reduceAdd, opS_len, effR, ty_slice49, ls_len]; (with_reducible refine hK _ ?_))
  refine WpA_for (G := {n : Nat // n ≤ l.length ∧ trimL l = trimL (l.take n)}) (fun n => ⟨[slU l, jk, .raw (.slice none 0 0), .raw (.int .i64 n.1), jk, jk, jk, jk, jk, jk, jk, jk, jk, jk, jk, jk, jk, jk, jk, jk, jk, jk], Hm []⟩) (fun n => n.1) ⟨l.length, Nat.le_refl _, by simp⟩ ?_ ?_
  · refine Weak_sub trivial ?_
    simp [wkL, okTV, okAV]
  · rintro ⟨n, hn, hT⟩
    simp only
    by_cases h0 : 0 < n
    · obtain ⟨a, ha⟩ := getElem?_of_lt (l := l) (k := n - 1) (by omega)
      have e1 : ((n : Int) - 1).toNat = n - 1 := by omega
      (refine WpA_seq (WpA_sreg [] [] (by simp) fun K hK => ?_); simp (disch := omega) only [kc, prep1, Nat.reduceAdd, Hm, effM, ofConst, Value.oneCell', evBin, decT, stS_guard, ifT, wrapI, opS_indexAddr, effR, natOf_pos, e1, ty_slice49, ls_get, ha, fU, ty_sz92, packT, ty_agg92, opS_pick]; (with_reducible refine hK _ ?_))
      have htk : l.take n = l.take (n - 1) ++ [a] := by
        have := List.take_succ_eq_append_getElem (i := n - 1) (l := l) (by omega)
        rw [show n - 1 + 1 = n by omega] at this
        rw [this, (List.getElem?_eq_some_iff.1 ha).2]
      refine WpA_cond rfl (fun hz => WpA_skip ?_) (fun hz => WpA_exit ?_)
      · have hz' : a = 0 := by simpa using hz
        refine WpA_block ?_
        ((refine WpA_lreg [] [] (by simp) fun K hK => ?_); simp (disch := omega) only [kc, prep1, Nat.reduceAdd, decT, effM, ofConst, Value.oneCell', evBin, wrapI]; (with_reducible refine hK _ ?_))
        refine ⟨⟨n - 1, by omega, ?_⟩, by simp only; omega, Weak_sub trivial ?_⟩
        · rw [hT, htk, hz', trim_snoc_zero]
        · have e : ((n - 1 : Nat) : Int) = (n : Int) - 1 := by omega
          simp [wkL, okTV, okAV, e]
      · have hz' : a ≠ 0 := by intro e; simp [e] at hz
        have hfin : trimL l = l.take n := by rw [hT, htk, trim_snoc hz']
        show WpA _ _ _ _
        have hlen : (l.take n).length = n := by simp; omega
        (refine WpA_sreg [] [] (by simp) fun K hK => ?_; simp (disch := omega) only [kc, prep1, Nat.reduceAdd, decF, opS_slice, effR, ty_slice49, bound, natOf_pos, ty_sz92, Nat.zero_le, ls_len, ls_all fU_len, and_true, ls_take, ifT, opS_append, appS, effD, ofConst, Value.oneCell', newsOf, ls_own, newS, effA, ty_zero92, ty_by92, lc_len, hlen, lc_all fU_len]; (with_reducible refine hK _ ?_))
        refine WpA_ret ⟨.inr rfl, ret_fz 21 (fzOk_one rfl) ?_ rfl⟩
        simp (disch := omega) only [kc, resA, Tryz.results58, resOne, fzTV, fzAV, updH, ifT, lc_take, lc_cellF, hfin]
        simp [List.take_take]
    · have hn0 : n = 0 := by omega
      subst hn0
      have hfin : trimL l = [] := by rw [hT]; simp [trimL]
      (refine WpA_seq (WpA_sreg [] [] (by simp) fun K hK => ?_); simp (disch := omega) only [kc, prep1, Nat.reduceAdd, Hm, effM, ofConst, Value.oneCell', evBin, decF, stS_guard, Option.map_none, opS_indexAddr, effR, opS_pick]; (with_reducible refine hK _ ?_))
      refine WpA_cond rfl (fun hz => by cases hz) (fun hz => WpA_exit ?_)
      show WpA _ _ _ _
      (refine WpA_sreg [] [] (by simp) fun K hK => ?_; simp (disch := omega) only [kc, prep1, Nat.reduceAdd, opS_slice, effR, ty_slice49, bound, natOf_pos, ty_sz92, Nat.le_refl, ls_len, Nat.zero_le, ls_all fU_len, opS_append, appS, effD, ofConst, Value.oneCell', newsOf, newS, effA, ty_zero92, ty_by92, Nat.reduceMul, allnil, and_true, ifT]; (with_reducible refine hK _ ?_))
      refine WpA_ret ⟨.inr rfl, ret_fz 21 (fzOk_one (f := fU) (l := []) rfl) ?_ rfl⟩
      simp (disch := omega) only [kc, resA, Tryz.results58, resOne, fzTV, fzAV, updH, ifT, Nat.add_zero, hfin]
      simp [ls]
end Go.Proofs.YtennjcjjegbhgaaGreat
namespace Go.Proofs.YtennjcjjegbhgaaGreat
open Go.RowKit
def liveAV (H : OH) : AV → Prop
  | .sl a _ _ _ => H a ≠ []
  | .ptr a _ _ _ => H a ≠ []
  | _ => True
def liveTV (H : OH) : TV → Prop
  | .one x => liveAV H x
  | .agg cs => ∀ x ∈ cs, liveAV H x
  | .tup ts => ∀ t ∈ ts, ∀ x ∈ t.2, liveAV H x
def Live (s : AS) : Prop := (∀ (t : Nat) x, s.tmps[t]? = some x → liveTV s.H x) ∧ ∀ a, ∀ o ∈ s.H a, selfO a o
section
variable {P : Program} {s s' : AS} {H : OH}
theorem live_of_rel {w0 w : World} {O X : Nat → Prop} {a : Act} (h : Rel w0 O X s a w) : Live s := by
  obtain ⟨_, _, ρ, hinv, htm⟩ := h
  have av : ∀ x v, AV.rel ρ s.H (Xo X ρ s.H) w x v → liveAV s.H x := fun x v hx => by
    cases x with
    | p x => trivial
    | sl a r off len => obtain ⟨o, h1, _⟩ := hx; intro h0; rw [h0] at h1; simp at h1
    | ptr a r i j => obtain ⟨o, _, _, h1, _⟩ := hx; intro h0; rw [h0] at h1; simp at h1
    | junk => trivial
  have agg : ∀ cs v, aggRel ρ s.H (Xo X ρ s.H) w cs v → ∀ x ∈ cs, liveAV s.H x := fun cs v hc x hx => by
    obtain ⟨vs, _, _, h3⟩ := hc
    obtain ⟨k, hk, rfl⟩ := List.getElem_of_mem hx
    obtain ⟨u, _, _, h4⟩ := h3 k _ (List.getElem?_eq_getElem hk)
    exact av _ _ h4
  refine ⟨fun t x hx => ?_, fun a o ho => ?_⟩
  · obtain ⟨v, _, hv⟩ := htm t x hx
    cases x with
    | one x => exact av x v hv
    | agg cs => exact agg cs v hv
    | tup ts =>
      obtain ⟨vs, _, _, h3⟩ := hv
      intro t ht x hx
      obtain ⟨k, hk, rfl⟩ := List.getElem_of_mem ht
      obtain ⟨u, _, h4⟩ := h3 k _ _ (List.getElem?_eq_getElem hk)
      rcases h4 with ⟨_, h4⟩ | ⟨_, y, h5, h4⟩
      · exact agg _ _ h4 x hx
      · have h5 : ts[k].2 = [y] := h5
        rw [h5] at hx; simp at hx; subst hx; exact av _ _ h4
  · obtain ⟨k, hk, rfl⟩ := List.getElem_of_mem ho
    exact hinv.self a k _ (List.getElem?_eq_getElem hk)
theorem ev_live (h : Live s) {x : Operand} {t : TV} (hx : s.ev x = some t) : liveTV s.H t := by
  cases x with
  | tmp k => exact h.1 k t hx
  | const v =>
    simp only [AS.ev] at hx
    injection hx with hx
    subst hx
    unfold ofConst
    split
    · split
      · intro y hy; simp only [List.mem_map] at hy; obtain ⟨u, _, rfl⟩ := hy; trivial
      · trivial
    · split <;> trivial
  | global g => simp only [AS.ev] at hx; injection hx with hx; subst hx; trivial
  | func f => simp only [AS.ev] at hx; injection hx with hx; subst hx; trivial
theorem put_live (h : Live s) {d : Option Tmp} {t : TV} (ht : liveTV s.H t) : Live (s.put d t) := by
  refine ⟨fun k x hx => ?_, by rw [put_H]; exact h.2⟩
  rw [put_H]
  cases d with
  | none => exact h.1 k x hx
  | some d =>
    simp only [AS.put] at hx
    by_cases hk : d = k
    · subst hk
      rw [List.getElem?_set] at hx
      simp at hx
      obtain ⟨_, rfl⟩ := hx
      exact ht
    · rw [List.getElem?_set_ne hk] at hx; exact h.1 k x hx
theorem effM_live (h : Live s) {op : Op} {t : TV} (ht : effM P s.ev op = some t) : liveTV s.H t := by
  cases op <;> simp only [effM] at ht <;> try cases ht
  case move x => exact ev_live h ht
  case assign x => exact ev_live h ht
  case pick c a b =>
    split at ht
    · exact ev_live h ht
    · exact ev_live h ht
    · cases ht
  case binOp op ty x y yt =>
    split at ht
    · obtain ⟨v, _, rfl⟩ := Option.map_eq_some_iff.1 ht; trivial
    · cases ht
  case unOp op ty x =>
    split at ht
    · obtain ⟨v, _, rfl⟩ := Option.map_eq_some_iff.1 ht; trivial
    · cases ht
  case convert a b x =>
    split at ht
    · injection ht with ht; subst ht; trivial
    · cases ht
  case extract x k =>
    split at ht
    · rename_i ts hx
      have hl := ev_live h hx
      split at ht
      · rename_i cs hk
        injection ht with ht
        subst ht
        exact hl _ (List.mem_of_getElem? hk)
      · rename_i y hk
        injection ht with ht
        subst ht
        exact hl _ (List.mem_of_getElem? hk) y (by simp)
      · cases ht
    · cases ht
theorem pack_live {t : TypeId} {cs : List AV} {T : TV} (h : packT P t cs = some T) (hc : ∀ x ∈ cs, liveAV H x) : liveTV H T := by
  unfold packT at h
  split at h
  · split at h
    · injection h with h; subst h; exact fun x hx => hc x (List.mem_of_mem_take hx)
    · cases h
  · split at h
    · injection h with h; subst h; exact hc _ (by simp)
    · cases h
  · cases h
theorem cellsOf_live {t : TV} {cs : List AV} (h : cellsOf t = some cs) (ht : liveTV H t) : ∀ x ∈ cs, liveAV H x := by
  unfold cellsOf at h
  split at h
  · injection h with h; subst h; intro x hx; simp at hx; subst hx; trivial
  · injection h with h; subst h; exact ht
  · cases h
theorem fill_live (h : Live s) {pl : List (Nat × Nat)} : ∀ (parts : List (Nat × Operand)) (cs cs' : List AV), fillA pl s.ev cs parts = some cs' → (∀ x ∈ cs, liveAV s.H x) → ∀ x ∈ cs', liveAV s.H x
  | [], cs, cs', hf, hc => by simp only [fillA] at hf; injection hf with hf; subst hf; exact hc
  | (f, x) :: rest, cs, cs', hf, hc => by
    simp only [fillA] at hf
    split at hf
    · rename_i off n ys hp hx
      obtain ⟨t, ht, hys⟩ := Option.bind_eq_some_iff.1 hx
      split at hf
      · refine fill_live h rest _ cs' hf fun y hy => ?_
        simp only [List.mem_append] at hy
        rcases hy with (hy | hy) | hy
        · exact hc y (List.mem_of_mem_take hy)
        · exact cellsOf_live hys (ev_live h ht) y hy
        · exact hc y (List.mem_of_mem_drop hy)
      · cases hf
    · cases hf
theorem self_live (h : Live s) {a r i : Nat} {o : OObj} {e : List AV} (ho : (s.H a)[r]? = some o) (he : o.elems[i]? = some e) : ∀ x ∈ e, liveAV s.H x := fun x hx => by
  have hs := h.2 a o (List.mem_of_getElem? ho) e (List.mem_of_getElem? he) x hx
  have hne : s.H a ≠ [] := by intro h0; rw [h0] at ho; simp at ho
  cases x with
  | sl b _ _ _ => have hs : b = a := hs; subst hs; exact hne
  | ptr b _ _ _ => have hs : b = a := hs; subst hs; exact hne
  | p x => trivial
  | junk => trivial
theorem effR_live (h : Live s) {op : Op} {t : TV} (ht : effR P s.ev s.H op = some t) : liveTV s.H t := by
  cases op
  case load ty x =>
    simp only [effR] at ht
    split at ht
    · exact pack_live ht (fun y hy => by simp only [List.mem_map] at hy; obtain ⟨z, _, rfl⟩ := hy; trivial)
    · split at ht
      · rename_i o ho
        split at ht
        · rename_i e he
          exact pack_live ht (fun y hy => self_live h ho he y (List.mem_of_mem_drop hy))
        · cases ht
      · cases ht
    · cases ht
  case indexAddr ty x ix =>
    simp only [effR] at ht
    split at ht
    · split at ht
      · cases ht
      · split at ht
        · split at ht
          · split at ht
            · injection ht with ht; subst ht; trivial
            · cases ht
          · cases ht
        · rename_i e a r off len hs hx
          split at ht
          · split at ht
            · injection ht with ht; subst ht; have q := ev_live h hx; exact q
            · cases ht
          · cases ht
        · cases ht
    · cases ht
  case fieldAddr ty x f =>
    simp only [effR] at ht
    split at ht
    · split at ht
      · injection ht with ht; subst ht; trivial
      · cases ht
    · rename_i hx
      split at ht
      · injection ht with ht; subst ht; have q := ev_live h hx; exact q
      · cases ht
    · cases ht
  case field ty x f =>
    simp only [effR] at ht
    split at ht
    · rename_i hx
      exact pack_live ht (fun y hy => ev_live h hx y (List.mem_of_mem_drop hy))
    · cases ht
  case slice ty x lo hi mx =>
    cases mx with
    | some _ => simp only [effR] at ht; cases ht
    | none =>
      simp only [effR] at ht
      split at ht
      · split at ht
        · split at ht
          · injection ht with ht; subst ht; trivial
          · cases ht
        · cases ht
      · rename_i hx
        split at ht
        · split at ht
          · injection ht with ht; subst ht; have q := ev_live h hx; exact q
          · split at ht
            · injection ht with ht; subst ht; trivial
            · cases ht
        · cases ht
      · cases ht
  case build ty parts =>
    simp only [effR] at ht
    split at ht
    · split at ht
      · obtain ⟨cs, hcs, rfl⟩ := Option.map_eq_some_iff.1 ht
        exact fill_live h _ _ _ hcs (fun y hy => by simp only [List.mem_map] at hy; obtain ⟨z, _, rfl⟩ := hy; trivial)
      · cases ht
    · cases ht
  case nilCheck x =>
    simp only [effR] at ht
    split at ht
    · injection ht with ht; subst ht; trivial
    · rename_i hx; injection ht with ht; subst ht; have q := ev_live h hx; exact q
    · cases ht
  case call c =>
    obtain ⟨callee, args, argTypes⟩ := c
    cases callee with
    | builtin b =>
      cases b
      case len =>
        simp only [effR] at ht
        split at ht
        · split at ht
          · injection ht with ht; subst ht; trivial
          · injection ht with ht; subst ht; trivial
          · injection ht with ht; subst ht; trivial
          · cases ht
        · cases ht
      all_goals (simp only [effR] at ht; cases ht)
    | value f => simp only [effR] at ht; cases ht
    | invoke r m => simp only [effR] at ht; cases ht
  all_goals (simp only [effR] at ht; cases ht)
end
end Go.Proofs.YtennjcjjegbhgaaGreat
namespace Go.Proofs.YtennjcjjegbhgaaGreat
open Go.RowKit
section
variable {P : Program} {s s' : AS} {H H' : OH}
def Grows (H H' : OH) : Prop := ∀ a, H a ≠ [] → H' a = H a
def sameAV (H H' : OH) : AV → Prop
  | .sl a _ _ _ => H' a = H a
  | .ptr a _ _ _ => H' a = H a
  | _ => True
def sameTV (H H' : OH) : TV → Prop
  | .one x => sameAV H H' x
  | .agg cs => ∀ x ∈ cs, sameAV H H' x
  | .tup ts => ∀ t ∈ ts, ∀ x ∈ t.2, sameAV H H' x
theorem sameAV_live {x : AV} (h : liveAV H x) (g : Grows H H') : sameAV H H' x := by
  cases x with
  | sl a _ _ _ => exact g a h
  | ptr a _ _ _ => exact g a h
  | p x => trivial
  | junk => trivial
theorem sameTV_live {t : TV} (h : liveTV H t) (g : Grows H H') : sameTV H H' t := by
  cases t with
  | one x => exact sameAV_live h g
  | agg cs => exact fun x hx => sameAV_live (h x hx) g
  | tup ts => exact fun t ht x hx => sameAV_live (h t ht x hx) g
theorem sameAV_refl (x : AV) : sameAV H H x := by cases x <;> first | rfl | trivial
theorem sameTV_refl (t : TV) : sameTV H H t := by
  cases t with
  | one x => exact sameAV_refl x
  | agg cs => exact fun x _ => sameAV_refl x
  | tup ts => exact fun t _ x _ => sameAV_refl x
theorem effM_congr {ev ev' : Operand → Option TV} {op : Op} (h : ∀ x ∈ op.operands, ev x = ev' x) : effM P ev op = effM P ev' op := by
  cases op <;> simp only [Op.operands] at h <;> simp only [effM]
  case move x => exact h x (by simp)
  case assign x => exact h x (by simp)
  case pick c a b => rw [h c (by simp), h a (by simp), h b (by simp)]
  case binOp op t x y t' => rw [h x (by simp), h y (by simp)]
  case unOp op t x => rw [h x (by simp)]
  case convert a b x => rw [h x (by simp)]
  case extract x k => rw [h x (by simp)]
theorem effM_kill (k : Nat → Nat → Bool) {ev : Operand → Option TV} {op : Op} : effM P (fun x => (ev x).map (killTV k)) op = (effM P ev op).map (killTV k) := by
  have key : ∀ (t : TV) v, killTV k t = .one (.p (.raw v)) ↔ t = .one (.p (.raw v)) := fun t v => by
    cases t with
    | one x =>
      cases x with
      | p x => exact Iff.rfl
      | sl a r off len => simp only [killTV, killAV]; split <;> simp
      | ptr a r i j => simp only [killTV, killAV]; split <;> simp
      | junk => simp [killTV, killAV]
    | agg cs => simp [killTV]
    | tup ts => simp [killTV]
  cases op <;> simp only [effM] <;> try rfl
  case pick c a b =>
    cases hc : ev c with
    | none => rfl
    | some t =>
      simp only [Option.map_some]
      by_cases h1 : t = .one (.p (.raw (.bool true)))
      · subst h1; rfl
      · by_cases h2 : t = .one (.p (.raw (.bool false)))
        · subst h2; rfl
        · have e1 : ∀ b, killTV k t ≠ .one (.p (.raw (.bool b))) := fun b he => by
            have := (key t _).1 he
            cases b
            · exact h2 this
            · exact h1 this
          split
          · rename_i he; injection he with he; exact absurd he (e1 _)
          · rename_i he; injection he with he; exact absurd he (e1 _)
          · split
            · rename_i he; injection he with he; exact absurd he h1
            · rename_i he; injection he with he; exact absurd he h2
            · rfl
  case binOp op t x y t' =>
    cases hx : ev x with
    | none => rfl
    | some tx =>
      cases hy : ev y with
      | none =>
        simp only [Option.map_some, Option.map_none]
        split
        · rename_i he; cases he
        · rfl
      | some ty =>
        simp only [Option.map_some]
        by_cases h1 : ∃ a b, tx = .one (.p (.raw a)) ∧ ty = .one (.p (.raw b))
        · obtain ⟨a, b, rfl, rfl⟩ := h1
          simp only [killTV, killAV]
          cases evBin (boolO P t) op a b <;> rfl
        · split
          · rename_i a b ha hb
            injection ha with ha
            injection hb with hb
            exact absurd ⟨a, b, (key _ _).1 ha, (key _ _).1 hb⟩ h1
          · split
            · rename_i a b ha hb
              injection ha with ha
              injection hb with hb
              exact absurd ⟨a, b, ha, hb⟩ h1
            · rfl
  case unOp op t x =>
    cases hx : ev x with
    | none => rfl
    | some tx =>
      simp only [Option.map_some]
      by_cases h1 : ∃ a, tx = .one (.p (.raw a))
      · obtain ⟨a, rfl⟩ := h1
        simp only [killTV, killAV]
        cases evUn op a <;> rfl
      · split
        · rename_i a ha; injection ha with ha; exact absurd ⟨a, (key _ _).1 ha⟩ h1
        · split
          · rename_i a ha; injection ha with ha; exact absurd ⟨a, ha⟩ h1
          · rfl
  case convert a b x =>
    cases hx : ev x with
    | none => rfl
    | some tx =>
      simp only [Option.map_some]
      by_cases h1 : ∃ q n, tx = .one (.p (.raw (.int q n)))
      · obtain ⟨q, n, rfl⟩ := h1
        simp only [killTV, killAV]
        cases P.underlying a with
        | none => rfl
        | some u => cases intO P b <;> rfl
      · split
        · rename_i q n _ _ ha _ _; injection ha with ha; exact absurd ⟨_, _, (key _ _).1 ha⟩ h1
        · split
          · rename_i q n _ _ ha _ _; injection ha with ha; exact absurd ⟨_, _, ha⟩ h1
          · rfl
  case extract x i =>
    cases hx : ev x with
    | none => rfl
    | some tx =>
      cases tx with
      | one y => rfl
      | agg cs => rfl
      | tup ts =>
        simp only [Option.map_some, killTV, List.getElem?_map]
        cases hi : ts[i]? with
        | none => rfl
        | some t =>
          obtain ⟨b, cs⟩ := t
          cases b with
          | true => rfl
          | false =>
            cases cs with
            | nil => rfl
            | cons y l => cases l <;> rfl
theorem bound_congr {ev ev' : Operand → Option TV} {x : Option Operand} {d : Nat} (h : ∀ y, x = some y → ev y = ev' y) : bound ev x d = bound ev' x d := by
  cases x with
  | none => rfl
  | some y => simp only [bound, h y rfl]
theorem fill_congr {pl : List (Nat × Nat)} {ev ev' : Operand → Option TV} : ∀ (parts : List (Nat × Operand)) (cs : List AV), (∀ p ∈ parts, ev p.2 = ev' p.2) → fillA pl ev cs parts = fillA pl ev' cs parts
  | [], cs, _ => rfl
  | (f, x) :: rest, cs, h => by
    simp only [fillA, h (f, x) (by simp)]
    split
    · split
      · exact fill_congr rest _ (fun p hp => h p (by simp [hp]))
      · rfl
    · rfl
theorem lit_congr {n : Nat} {ev ev' : Operand → Option TV} : ∀ (parts : List (Nat × Operand)) (i : Nat), (∀ p ∈ parts, ev p.2 = ev' p.2) → litA ev n i parts = litA ev' n i parts
  | [], i, _ => rfl
  | (f, x) :: rest, i, h => by
    simp only [litA, h (f, x) (by simp), lit_congr rest (i + 1) (fun p hp => h p (by simp [hp]))]
theorem evAll_congr {ev ev' : Operand → Option TV} : ∀ (l : List Operand), (∀ x ∈ l, ev x = ev' x) → evAll ev l = evAll ev' l
  | [], _ => rfl
  | x :: l, h => by simp only [evAll, h x (by simp), evAll_congr l (fun y hy => h y (by simp [hy]))]
theorem effR_congr {ev ev' : Operand → Option TV} {op : Op} (h : ∀ x ∈ op.operands, ev x = ev' x) (hl : ∀ x ∈ op.operands, ∀ t, ev x = some t → sameTV H H' t) : effR P ev H op = effR P ev' H' op := by
  cases op <;> simp only [Op.operands] at h hl <;> try (simp only [effR]; done)
  case load t x =>
    simp only [effR, ← h x (by simp)]
    cases hx : ev x with
    | none => rfl
    | some tx =>
      have := hl x (by simp) tx hx
      cases tx with
      | one y =>
        cases y with
        | ptr a r i j => simp only [show H' a = H a from this]
        | p y => cases y <;> rfl
        | sl a r off len => rfl
        | junk => rfl
      | agg cs => rfl
      | tup ts => rfl
  case indexAddr t x ix =>
    simp only [effR, ← h x (by simp), ← h ix (by simp)]
    cases sliceO P t with
    | none => rfl
    | some e =>
      cases hx : ev x with
      | none => rfl
      | some tx =>
        have := hl x (by simp) tx hx
        cases tx with
        | one y =>
          cases y with
          | sl a r off len => simp only [show H' a = H a from this]
          | p y => cases y <;> rfl
          | ptr a r i j => rfl
          | junk => rfl
        | agg cs => rfl
        | tup ts => rfl
  case fieldAddr t x f => simp only [effR, ← h x (by simp)]
  case field t x f => simp only [effR, ← h x (by simp)]
  case slice t x lo hi mx =>
    cases mx with
    | some m => simp only [effR]
    | none =>
      simp only [effR, ← h x (by simp)]
      have hlo : ∀ d, bound ev lo d = bound ev' lo d := fun d => bound_congr fun y hy => h y (by subst hy; simp)
      have hhi : ∀ d, bound ev hi d = bound ev' hi d := fun d => bound_congr fun y hy => h y (by subst hy; cases lo <;> simp)
      simp only [hlo, hhi]
      cases sliceO P t with
      | none => rfl
      | some e =>
        cases hx : ev x with
        | none => rfl
        | some tx =>
          have := hl x (by simp) tx hx
          cases tx with
          | one y =>
            cases y with
            | sl a r off len => simp only [show H' a = H a from this]
            | p y => cases y <;> rfl
            | ptr a r i j => rfl
            | junk => rfl
          | agg cs => rfl
          | tup ts => rfl
  case build t parts =>
    simp only [effR]
    have : ∀ pl cs, fillA pl ev cs parts.toList = fillA pl ev' cs parts.toList := fun pl cs => fill_congr _ _ (fun p hp => h p.2 (by simp only [List.mem_toArray, List.mem_map]; exact ⟨p, hp, rfl⟩))
    simp only [this]
  case nilCheck x => simp only [effR, ← h x (by simp)]
  case call c =>
    obtain ⟨callee, ⟨args⟩, ⟨argTypes⟩⟩ := c
    cases callee with
    | builtin b =>
      cases b <;> try (simp only [effR]; done)
      simp only [effR]
      simp only [Call.operands] at h
      split
      · rename_i x t
        rw [h x (by simp)]
      · rfl
    | value f => simp only [effR]
    | invoke r m => simp only [effR]
  all_goals rfl
theorem norm_p (x : PV) : norm H' (.one (.p x)) = norm H (.one (.p x)) := by
  have key : ∀ G : OH, norm G (.one (.p x)) = .one (.p x) ∨ (x = .raw (.slice none 0 0) ∧ norm G (.one (.p x)) = .one (.p (.sl []))) := fun G => by
    unfold norm
    split
    · rename_i heq; cases heq
    · rename_i heq; injection heq with heq; injection heq with heq; exact .inr ⟨heq, rfl⟩
    · exact .inl rfl
  by_cases hx : x = .raw (.slice none 0 0)
  · subst hx; rfl
  · rcases key H with h1 | ⟨h1, _⟩
    · rcases key H' with h2 | ⟨h2, _⟩
      · rw [h1, h2]
      · exact absurd h2 hx
    · exact absurd h1 hx
theorem news_p (x : PV) : newsOf H' (.one (.p x)) = newsOf H (.one (.p x)) := by
  unfold newsOf
  split
  · rename_i heq; injection heq with heq; injection heq with heq; subst heq; rfl
  · rename_i heq; injection heq with heq; injection heq with heq; subst heq; rfl
  · rename_i heq; cases heq
  · rfl
theorem norm_grow {t : TV} (hl : sameTV H H' t) : norm H' t = norm H t ∧ ∀ b, normOk b H' t = normOk b H t := by
  cases t with
  | one x =>
    cases x with
    | sl a r off len => exact ⟨by simp only [norm, show H' a = H a from hl], fun b => by simp only [normOk, show H' a = H a from hl]⟩
    | p x => exact ⟨norm_p x, fun b => rfl⟩
    | ptr a r i j => exact ⟨rfl, fun b => rfl⟩
    | junk => exact ⟨rfl, fun b => rfl⟩
  | agg cs => exact ⟨rfl, fun b => rfl⟩
  | tup ts => exact ⟨rfl, fun b => rfl⟩
theorem news_grow {t : TV} (hl : sameTV H H' t) : newsOf H' t = newsOf H t := by
  cases t with
  | one x =>
    cases x with
    | sl a r off len => simp only [newsOf, show H' a = H a from hl]
    | p x => exact news_p x
    | ptr a r i j => rfl
    | junk => rfl
  | agg cs => rfl
  | tup ts => rfl
theorem effA_congr {items : List (Item P)} {ow : List Nat} {i d : Nat} {ev ev' : Operand → Option TV} {op : Op} (h : ∀ x ∈ op.operands, ev x = ev' x) (hl : ∀ x ∈ op.operands, ∀ t, ev x = some t → sameTV H H' t) : effA P items ow i d ev H op = effA P items ow i d ev' H' op := by
  cases op <;> simp only [Op.operands] at h hl <;> try (simp only [effA]; done)
  case box e x => simp only [effA, ← h x (by simp)]
  case makeSlice t l c => simp only [effA, ← h l (by simp), ← h c (by simp)]
  case buildSlice t n parts =>
    simp only [effA]
    have : ∀ n i, litA ev n i parts.toList = litA ev' n i parts.toList := fun n i => lit_congr _ _ (fun p hp => h p.2 (by simp only [List.mem_toArray, List.mem_map]; exact ⟨p, hp, rfl⟩))
    simp only [this]
  case call c =>
    obtain ⟨callee, ⟨args⟩, ⟨argTypes⟩⟩ := c
    simp only [Call.operands] at h hl
    cases callee with
    | value f =>
      cases f <;> try (simp only [effA]; done)
      rename_i f
      simp only [effA]
      have he : evAll ev args = evAll ev' args := evAll_congr args (fun x hx => h x (by simp [hx]))
      rw [← he]
      cases hts : evAll ev args with
      | none => cases List.find? (fun x => x.i == i) items <;> rfl
      | some ts =>
        have hlv : ∀ t ∈ ts, sameTV H H' t := fun t ht => by
          obtain ⟨k, hk, rfl⟩ := List.getElem_of_mem ht
          obtain ⟨x, hx, hxt⟩ := (evAll_spec hts).2 k _ (List.getElem?_eq_getElem hk)
          exact hl x (by simp [List.mem_of_getElem? hx]) _ hxt
        have e1 : ts.map (norm H') = ts.map (norm H) := List.map_congr_left fun t ht => (norm_grow (hlv t ht)).1
        have e2 : ∀ b, ts.all (normOk b H') = ts.all (normOk b H) := fun b => by
          rw [Bool.eq_iff_iff]
          simp only [List.all_eq_true]
          exact ⟨fun hh t ht => by rw [← (norm_grow (hlv t ht)).2 b]; exact hh t ht, fun hh t ht => by rw [(norm_grow (hlv t ht)).2 b]; exact hh t ht⟩
        cases List.find? (fun x => x.i == i) items with
        | none => rfl
        | some it =>
          have ec : (it.f = f ∧ ts.map (norm H') = it.args ∧ ts.all (normOk it.res.plain H') = true ∧ (!it.res.fam.isEmpty || noRefTV it.res.r) = true) ↔ (it.f = f ∧ ts.map (norm H) = it.args ∧ ts.all (normOk it.res.plain H) = true ∧ (!it.res.fam.isEmpty || noRefTV it.res.r) = true) := by rw [e1, e2]
          by_cases hc : it.f = f ∧ ts.map (norm H) = it.args ∧ ts.all (normOk it.res.plain H) = true ∧ (!it.res.fam.isEmpty || noRefTV it.res.r) = true
          · simp only []
            rw [if_pos hc, if_pos (ec.2 hc)]
          · simp only []
            rw [if_neg hc, if_neg (fun h => hc (ec.1 h))]
    | builtin b =>
      cases b <;> try (simp only [effA]; done)
      simp only [effA]
      split
      · rename_i x y t t'
        rw [← h x (by simp), ← h y (by simp)]
        have e1 : (ev y).bind (newsOf H') = (ev y).bind (newsOf H) := by
          cases hy : ev y with
          | none => rfl
          | some ty => exact news_grow (hl y (by simp) ty hy)
        rw [e1]
      · rfl
    | invoke r m => simp only [effA]
end
end Go.Proofs.YtennjcjjegbhgaaGreat
namespace Go.Proofs.YtennjcjjegbhgaaGreat
open Go.RowKit
inductive Out where
  | val (t : TV)
  | new (t : TV) (o : OObj) (l : List OObj)
  | wr (q : DRes)
section
variable (P : Program) (items : List (Item P)) (ow : List Nat)
noncomputable def outA (r : Option (TV × List OObj)) : Option Out := match r with
  | some (t, []) => some (.val t)
  | some (t, o :: l) => some (.new t o l)
  | none => none
noncomputable def outOp (i : Nat) (d : Option Tmp) (op : Op) (ev : Operand → Option TV) (H : OH) : Option Out :=
  if isM op then (effM P ev op).map .val
  else if isR op then (effR P ev H op).map .val
  else match effD P ev H op with
    | some q => some (.wr q)
    | none => match d with
      | none => none
      | some d => outA (effA P items ow i d ev H op)
def appOut (d : Option Tmp) (s : AS) : Out → Option AS
  | .val t => some (s.put d t)
  | .new t o l => match d with
    | some d => (match s.H d with | [] => some (AS.put ⟨s.tmps, updH s.H d (o :: l)⟩ (some d) t) | _ => none)
    | none => none
  | .wr q => some (AS.put ⟨s.tmps.map (killTV q.k), q.H⟩ d q.t)
theorem absOp_out (i : Nat) (o : Oper) (s : AS) : absOp P items ow i o s = (outOp P items ow i o.dst o.op s.ev s.H).bind (appOut o.dst s) := by
  unfold absOp outOp
  split
  · cases effM P s.ev o.op <;> rfl
  · split
    · cases effR P s.ev s.H o.op <;> rfl
    · cases effD P s.ev s.H o.op with
      | some q => rfl
      | none =>
        cases hd : o.dst with
        | none => rfl
        | some d =>
          simp only
          cases hA : effA P items ow i d s.ev s.H o.op with
          | none => rfl
          | some tF =>
            obtain ⟨t, F⟩ := tF
            cases F with
            | nil => rfl
            | cons o' l => simp only [outA, Option.bind_some, appOut]; cases s.H d <;> rfl
def gate (ops : Array Oper) (o : Oper) (s : AS) : Option Bool := match o.guard with
  | none => some true
  | some (g, want) => match (ops[g]?).bind (·.dst) with
    | none => none
    | some d => match s.tmps[d]? with
      | some (.one (.p (.raw (.bool b)))) => some (b == want)
      | some (.tup []) => some false
      | _ => none
noncomputable def stepOut (ops : Array Oper) (i : Nat) (o : Oper) (s : AS) : Option Out := match gate ops o s with
  | some true => outOp P items ow i o.dst o.op s.ev s.H
  | some false => some (.val .undef)
  | none => none
theorem absStep_out (ops : Array Oper) (i : Nat) (o : Oper) (s : AS) : absStep P items ow ops i o s = (stepOut P items ow ops i o s).bind (appOut o.dst s) := by
  unfold absStep stepOut gate
  cases hg : o.guard with
  | none => simp only; exact absOp_out P items ow i o s
  | some gw =>
    obtain ⟨g, want⟩ := gw
    simp only
    cases (ops[g]?).bind (·.dst) with
    | none => rfl
    | some d =>
      simp only
      cases hs : s.tmps[d]? with
      | none => rfl
      | some t =>
        cases t with
        | agg cs => rfl
        | tup ts => cases ts <;> rfl
        | one x =>
          cases x with
          | sl a r off len => rfl
          | ptr a r i j => rfl
          | junk => rfl
          | p x =>
            cases x with
            | sl xs => rfl
            | ptr cs => rfl
            | raw v =>
              cases v <;> try rfl
              rename_i b
              simp only
              by_cases hbw : b = want
              · subst hbw; simp only [if_true, beq_self_eq_true]; exact absOp_out P items ow i o s
              · rw [if_neg hbw]
                have : (b == want) = false := by simpa using hbw
                rw [this]; rfl
variable {P} {items} {ow}
variable {ops : Array Oper} {s s1 s2 s' : AS} {H H' : OH}
theorem put_tmps (s : AS) (d : Option Tmp) (t : TV) (k : Nat) (h : ∀ e, d = some e → e ≠ k) : (s.put d t).tmps[k]? = s.tmps[k]? := by
  cases d with
  | none => rfl
  | some e => simp only [AS.put]; exact List.getElem?_set_ne (h e rfl)
theorem put_ev (s : AS) (d : Option Tmp) (t : TV) {x : Operand} (h : ∀ e, d = some e → x ≠ .tmp e) : (s.put d t).ev x = s.ev x := by
  cases x with
  | tmp k => exact put_tmps s d t k (fun e he hk => h e he (by rw [hk]))
  | const v => rfl
  | global g => rfl
  | func f => rfl
theorem put_comm' (s : AS) {d e : Option Tmp} (t u : TV) (h : ∀ k, d = some k → e ≠ some k) : (s.put d t).put e u = (s.put e u).put d t := by
  cases d with
  | none => rfl
  | some d =>
    cases e with
    | none => rfl
    | some e =>
      have : d ≠ e := fun hde => h d rfl (by rw [hde])
      simp only [AS.put]
      rw [List.set_comm _ _ this]
def NoLook (ops : Array Oper) (o : Oper) (d : Option Tmp) : Prop := ∀ e, d = some e → e ∉ o.looksAt ops
theorem NoLook.op {o : Oper} {d : Option Tmp} (h : NoLook ops o d) : ∀ x ∈ o.op.operands, ∀ e, d = some e → x ≠ .tmp e := fun x hx e he hxe => by
  subst hxe
  exact h e he (List.mem_append_left _ (List.mem_filterMap.2 ⟨.tmp e, by simpa using hx, rfl⟩))
theorem NoLook.gate {o : Oper} {d : Option Tmp} (h : NoLook ops o d) {g : Nat} {w : Bool} (hg : o.guard = some (g, w)) {k : Tmp} (hk : (ops[g]?).bind (·.dst) = some k) : ∀ e, d = some e → e ≠ k := fun e he hek => by
  subst hek
  refine h e he (List.mem_append_right _ ?_)
  simp only [hg, hk]
  simp
theorem gate_put {o : Oper} {d : Option Tmp} (h : NoLook ops o d) (t : TV) : gate ops o (s.put d t) = gate ops o s := by
  unfold gate
  cases hg : o.guard with
  | none => rfl
  | some gw =>
    obtain ⟨g, want⟩ := gw
    simp only
    cases hk : (ops[g]?).bind (·.dst) with
    | none => rfl
    | some k => simp only; rw [put_tmps s d t k (h.gate hg hk)]
theorem kill_ev (k : Nat → Nat → Bool) (H' : OH) (x : Operand) : AS.ev ⟨s.tmps.map (killTV k), H'⟩ x = (s.ev x).map (killTV k) := by
  cases x with
  | tmp t => simp only [AS.ev, List.getElem?_map]
  | const v =>
    simp only [AS.ev, Option.map_some]
    congr 1
    unfold ofConst
    split
    · split
      · simp only [killTV]; congr 1; rw [List.map_map]; rfl
      · rfl
    · split <;> rfl
  | global g => rfl
  | func f => rfl
theorem gate_kill {o : Oper} (k : Nat → Nat → Bool) (H' : OH) : gate ops o ⟨s.tmps.map (killTV k), H'⟩ = gate ops o s := by
  unfold gate
  cases hg : o.guard with
  | none => rfl
  | some gw =>
    obtain ⟨g, want⟩ := gw
    simp only
    cases hk : (ops[g]?).bind (·.dst) with
    | none => rfl
    | some e =>
      simp only [List.getElem?_map]
      cases s.tmps[e]? with
      | none => rfl
      | some t =>
        cases t with
        | one x =>
          cases x with
          | p x => rfl
          | sl a r off len => simp only [Option.map_some, killTV, killAV]; cases k a r <;> rfl
          | ptr a r i j => simp only [Option.map_some, killTV, killAV]; cases k a r <;> rfl
          | junk => rfl
        | agg cs => rfl
        | tup ts => cases ts <;> rfl
theorem effD_congr {ev ev' : Operand → Option TV} {op : Op} (h : ∀ x ∈ op.operands, ev x = ev' x) : effD P ev H op = effD P ev' H op := by
  cases op <;> simp only [Op.operands] at h <;> try (simp only [effD]; done)
  case store t x y => simp only [effD, ← h x (by simp), ← h y (by simp)]
  case call c =>
    obtain ⟨callee, ⟨args⟩, ⟨argTypes⟩⟩ := c
    simp only [Call.operands] at h
    simp only [effD]
    split
    · rename_i x y t t'
      rw [← h x (by simp), ← h y (by simp)]
    · rfl
theorem outOp_congr {i : Nat} {d : Option Tmp} {ev ev' : Operand → Option TV} {op : Op} (h : ∀ x ∈ op.operands, ev x = ev' x) (hs : ∀ x ∈ op.operands, ∀ t, ev x = some t → sameTV H H' t) (hD : H' = H ∨ ∀ e G, effD P e G op = none) :
    outOp P items ow i d op ev H = outOp P items ow i d op ev' H' := by
  unfold outOp
  rw [effM_congr h, effR_congr h hs]
  have hd : effD P ev H op = effD P ev' H' op := by
    rcases hD with rfl | hD
    · exact effD_congr h
    · rw [hD, hD]
  rw [hd]
  have ha : ∀ d, effA P items ow i d ev H op = effA P items ow i d ev' H' op := fun d => effA_congr h hs
  simp only [ha]
theorem stepOut_put {i : Nat} {o : Oper} {d : Option Tmp} (h : NoLook ops o d) (t : TV) : stepOut P items ow ops i o (s.put d t) = stepOut P items ow ops i o s := by
  unfold stepOut
  rw [gate_put h, put_H]
  split
  · exact (outOp_congr (fun x hx => (put_ev s d t (h.op x hx)).symm) (fun x _ t _ => sameTV_refl t) (.inl rfl)).symm
  · rfl
  · rfl
theorem stepOut_grow {i : Nat} {o : Oper} (hl : Live s) (hg : Grows s.H H') (hD : ∀ e G, effD P e G o.op = none) : stepOut P items ow ops i o ⟨s.tmps, H'⟩ = stepOut P items ow ops i o s := by
  unfold stepOut
  rw [show gate ops o ⟨s.tmps, H'⟩ = gate ops o s from rfl]
  split
  · refine (outOp_congr (fun x _ => ?_) (fun x _ t ht => sameTV_live (ev_live hl ht) hg) (.inr hD)).symm
    cases x <;> rfl
  · rfl
  · rfl
theorem stepOut_M {i : Nat} {o : Oper} (hM : isM o.op = true) {out : Out} (h : stepOut P items ow ops i o s = some out) : ∃ t, out = .val t := by
  unfold stepOut outOp at h
  split at h
  · rw [if_pos hM] at h
    obtain ⟨t, _, rfl⟩ := Option.map_eq_some_iff.1 h
    exact ⟨t, rfl⟩
  · injection h with h; exact ⟨_, h.symm⟩
  · cases h
theorem stepOut_MH {i : Nat} {o : Oper} (hM : isM o.op = true) (tm : List TV) (H H' : OH) : stepOut P items ow ops i o ⟨tm, H⟩ = stepOut P items ow ops i o ⟨tm, H'⟩ := by
  unfold stepOut outOp
  rw [show gate ops o ⟨tm, H⟩ = gate ops o ⟨tm, H'⟩ from rfl]
  simp only [hM, if_true]
  rfl
theorem stepOut_kill {i : Nat} {o : Oper} (hM : isM o.op = true) (k : Nat → Nat → Bool) (H' : OH) {t' : TV} : stepOut P items ow ops i o ⟨s.tmps.map (killTV k), H'⟩ = some (.val t') ↔ ∃ t, stepOut P items ow ops i o s = some (.val t) ∧ t' = killTV k t := by
  unfold stepOut outOp
  rw [gate_kill]
  cases gate ops o s with
  | none => simp
  | some b =>
    cases b with
    | false =>
      simp only [Option.some.injEq, Out.val.injEq]
      constructor
      · rintro rfl; exact ⟨_, rfl, rfl⟩
      · rintro ⟨t, rfl, rfl⟩; rfl
    | true =>
      simp only [hM, if_true]
      have e : effM P (AS.ev ⟨s.tmps.map (killTV k), H'⟩) o.op = (effM P s.ev o.op).map (killTV k) := by
        rw [← effM_kill]
        exact effM_congr (fun x _ => kill_ev k H' x)
      rw [e]
      cases effM P s.ev o.op with
      | none => simp
      | some t =>
        simp only [Option.map_some, Option.some.injEq, Out.val.injEq]
        constructor
        · rintro rfl; exact ⟨t, rfl, rfl⟩
        · rintro ⟨t, rfl, rfl⟩; rfl
theorem put_mk (tm : List TV) (H : OH) (d : Option Tmp) (t : TV) : AS.put ⟨tm, H⟩ d t = ⟨(AS.put ⟨tm, H⟩ d t).tmps, H⟩ := by cases d <;> rfl
theorem map_put (s : AS) (k : Nat → Nat → Bool) (H' : OH) (d : Option Tmp) (t : TV) : (⟨(s.put d t).tmps.map (killTV k), H'⟩ : AS) = AS.put ⟨s.tmps.map (killTV k), H'⟩ d (killTV k t) := by
  cases d with
  | none => rfl
  | some d => simp only [AS.put, List.map_set]
def Swaps (P : Program) (oi oj : Oper) : Prop := isM oi.op = true ∨ isM oj.op = true ∨ ((∀ e G, effD P e G oi.op = none) ∧ ∀ e G, effD P e G oj.op = none)
theorem appOut_grows {d : Option Tmp} {out : Out} (hw : ∀ q, out ≠ .wr q) (h : appOut d s out = some s1) : ∃ t H1, s1 = AS.put ⟨s.tmps, H1⟩ d t ∧ Grows s.H H1 ∧ ((H1 = s.H ∧ out = .val t) ∨ ∃ e o l, d = some e ∧ s.H e = [] ∧ H1 = updH s.H e (o :: l) ∧ out = .new t o l) := by
  cases out with
  | val t => simp only [appOut] at h; injection h with h; exact ⟨t, s.H, h.symm, fun _ _ => rfl, .inl ⟨rfl, rfl⟩⟩
  | new t o l =>
    simp only [appOut] at h
    cases d with
    | none => cases h
    | some e =>
      simp only at h
      split at h
      · rename_i hH
        injection h with h
        refine ⟨t, updH s.H e (o :: l), h.symm, fun a ha => ?_, .inr ⟨e, o, l, rfl, hH, rfl, rfl⟩⟩
        exact updH_ne (by rintro rfl; exact ha hH)
      · cases h
  | wr q => exact absurd rfl (hw q)
theorem swap_step {i j : Nat} {oi oj : Oper} (hl : Live s) (hij : NoLook ops oj oi.dst) (hji : NoLook ops oi oj.dst) (hd : ∀ k, oi.dst = some k → oj.dst ≠ some k) (hsw : Swaps P oi oj)
    (h1 : absStep P items ow ops i oi s = some s1) (h2 : absStep P items ow ops j oj s1 = some s') : ∃ s2, absStep P items ow ops j oj s = some s2 ∧ absStep P items ow ops i oi s2 = some s' := by
  rw [absStep_out] at h1 h2
  obtain ⟨ui, hui, h1⟩ := Option.bind_eq_some_iff.1 h1
  obtain ⟨uj, huj, h2⟩ := Option.bind_eq_some_iff.1 h2
  by_cases hMi : isM oi.op = true
  · obtain ⟨t, rfl⟩ := stepOut_M hMi hui
    simp only [appOut] at h1
    injection h1 with h1
    subst h1
    rw [stepOut_put hij] at huj
    cases uj with
    | val u =>
      simp only [appOut] at h2
      injection h2 with h2
      subst h2
      refine ⟨s.put oj.dst u, by rw [absStep_out, huj]; rfl, ?_⟩
      rw [absStep_out, stepOut_put hji, hui]
      simp only [Option.bind_some, appOut]
      rw [put_comm' s t u hd]
    | new u o l =>
      simp only [appOut, put_H] at h2
      cases hdj : oj.dst with
      | none => rw [hdj] at h2; cases h2
      | some e =>
        rw [hdj] at h2
        simp only at h2
        split at h2
        · rename_i hH
          injection h2 with h2
          subst h2
          refine ⟨AS.put ⟨s.tmps, updH s.H e (o :: l)⟩ (some e) u, by rw [absStep_out, huj]; simp only [Option.bind_some, appOut, hdj, hH], ?_⟩
          rw [absStep_out, ← hdj, stepOut_put hji, stepOut_MH hMi s.tmps _ s.H]
          rw [show (⟨s.tmps, s.H⟩ : AS) = s from rfl, hui]
          simp only [Option.bind_some, appOut]
          rw [put_comm' _ u t (fun k hk hk' => hd k hk' (by rw [hk]))]
          congr 2
          cases oi.dst <;> rfl
        · cases h2
    | wr q =>
      simp only [appOut] at h2
      injection h2 with h2
      subst h2
      refine ⟨AS.put ⟨s.tmps.map (killTV q.k), q.H⟩ oj.dst q.t, by rw [absStep_out, huj]; rfl, ?_⟩
      rw [absStep_out, stepOut_put hji, (stepOut_kill hMi q.k q.H).2 ⟨t, hui, rfl⟩]
      simp only [Option.bind_some, appOut]
      rw [map_put, put_comm' _ _ _ (fun k hk hk' => hd k hk' (by rw [hk]))]
  · by_cases hMj : isM oj.op = true
    · obtain ⟨u, rfl⟩ := stepOut_M hMj huj
      simp only [appOut] at h2
      injection h2 with h2
      subst h2
      cases ui with
      | val t =>
        simp only [appOut] at h1
        injection h1 with h1
        subst h1
        rw [stepOut_put hij] at huj
        refine ⟨s.put oj.dst u, by rw [absStep_out, huj]; rfl, ?_⟩
        rw [absStep_out, stepOut_put hji, hui]
        simp only [Option.bind_some, appOut]
        rw [put_comm' s t u hd]
      | new t o l =>
        simp only [appOut] at h1
        cases hdi : oi.dst with
        | none => rw [hdi] at h1; cases h1
        | some e =>
          rw [hdi] at h1
          simp only at h1
          split at h1
          · rename_i hH
            injection h1 with h1
            subst h1
            rw [← hdi, stepOut_put hij, stepOut_MH hMj s.tmps _ s.H, show (⟨s.tmps, s.H⟩ : AS) = s from rfl] at huj
            refine ⟨s.put oj.dst u, by rw [absStep_out, huj]; rfl, ?_⟩
            rw [absStep_out, stepOut_put hji, hui]
            simp only [Option.bind_some, appOut, put_H, hdi, hH]
            rw [put_comm' _ t u (fun k hk => hd k (by rw [hdi]; exact hk))]
            congr 2
            cases oj.dst <;> rfl
          · cases h1
      | wr q =>
        simp only [appOut] at h1
        injection h1 with h1
        subst h1
        rw [stepOut_put hij] at huj
        obtain ⟨u0, hu0, rfl⟩ := (stepOut_kill hMj q.k q.H).1 huj
        refine ⟨s.put oj.dst u0, by rw [absStep_out, hu0]; rfl, ?_⟩
        rw [absStep_out, stepOut_put hji, hui]
        simp only [Option.bind_some, appOut]
        rw [map_put, put_comm' _ _ _ hd]
    · obtain ⟨hDi, hDj⟩ : (∀ e G, effD P e G oi.op = none) ∧ ∀ e G, effD P e G oj.op = none := by
        rcases hsw with h | h | h
        · exact absurd h hMi
        · exact absurd h hMj
        · exact h
      have nowr : ∀ {i : Nat} {o : Oper} {s : AS} {u : Out}, (∀ e G, effD P e G o.op = none) → stepOut P items ow ops i o s = some u → ∀ q, u ≠ .wr q := fun {i o s u} hD hu q hq => by
        subst hq
        unfold stepOut outOp at hu
        split at hu
        · split at hu
          · obtain ⟨_, _, hh⟩ := Option.map_eq_some_iff.1 hu; cases hh
          · split at hu
            · obtain ⟨_, _, hh⟩ := Option.map_eq_some_iff.1 hu; cases hh
            · rw [hD] at hu
              simp only at hu
              split at hu
              · cases hu
              · unfold outA at hu
                split at hu <;> cases hu
        · cases hu
        · cases hu
      obtain ⟨t, H1, rfl, hg1, hc1⟩ := appOut_grows (nowr hDi hui) h1
      rw [stepOut_put hij, stepOut_grow hl hg1 hDj] at huj
      obtain ⟨u, H2, rfl, hg2, hc2⟩ := appOut_grows (nowr hDj huj) h2
      simp only [put_H] at hc2 hg2
      -- what j does to s alone
      have hj : ∃ H3, absStep P items ow ops j oj s = some (AS.put ⟨s.tmps, H3⟩ oj.dst u) ∧ Grows s.H H3 ∧ ((H3 = s.H ∧ H2 = H1) ∨ ∃ e o l, oj.dst = some e ∧ H3 = updH s.H e (o :: l) ∧ H2 = updH H1 e (o :: l)) := by
        rcases hc2 with ⟨e1, e2⟩ | ⟨e, o, l, e1, e2, e3, e4⟩
        · exact ⟨s.H, by rw [absStep_out, huj, e2]; rfl, fun _ _ => rfl, .inl ⟨rfl, e1⟩⟩
        · have hse : s.H e = [] := by
            rcases hc1 with ⟨c1, _⟩ | ⟨e', o', l', c1, c2, c3, _⟩
            · rw [← c1]; exact e2
            · rw [c3, updH_ne (by rintro rfl; exact hd _ c1 e1)] at e2; exact e2
          refine ⟨updH s.H e (o :: l), by rw [absStep_out, huj, e4]; simp only [Option.bind_some, appOut, e1, hse], fun a ha => updH_ne (by rintro rfl; exact ha hse), .inr ⟨e, o, l, e1, rfl, e3⟩⟩
      obtain ⟨H3, hj1, hg3, hj2⟩ := hj
      refine ⟨_, hj1, ?_⟩
      rw [absStep_out, stepOut_put hji, stepOut_grow hl hg3 hDi, hui]
      simp only [Option.bind_some]
      rcases hc1 with ⟨c1, c2⟩ | ⟨e', o', l', c1, c2, c3, c4⟩
      · subst c2
        simp only [appOut]
        rw [put_comm' _ u t (fun k hk hk' => hd k hk' (by rw [hk]))]
        congr 1
        have : H3 = H2 := by
          rcases hj2 with ⟨q1, q2⟩ | ⟨e, o, l, q0, q1, q2⟩
          · rw [q1, q2, c1]
          · rw [q1, q2, c1]
        rw [this, put_mk s.tmps H1, c1]
        cases oi.dst <;> rfl
      · subst c4
        have hH3 : H3 e' = [] := by
          rcases hj2 with ⟨q1, _⟩ | ⟨e, o, l, q0, q1, _⟩
          · rw [q1]; exact c2
          · rw [q1, updH_ne (by rintro rfl; exact hd _ c1 q0)]; exact c2
        simp only [appOut, c1, put_H, hH3]
        have e1 : (⟨(AS.put ⟨s.tmps, H3⟩ oj.dst u).tmps, updH H3 e' (o' :: l')⟩ : AS) = AS.put ⟨s.tmps, updH H3 e' (o' :: l')⟩ oj.dst u := by cases oj.dst <;> rfl
        rw [e1, put_comm' _ u t (fun k hk hk' => hd k (by rw [c1]; exact hk') (by rw [hk]))]
        congr 1
        have : updH H3 e' (o' :: l') = H2 := by
          rcases hj2 with ⟨q1, q2⟩ | ⟨e, o, l, q0, q1, q2⟩
          · rw [q1, q2, c3]
          · rw [q1, q2, c3]
            funext z
            have hne : e' ≠ e := by rintro rfl; exact hd _ c1 q0
            by_cases h1 : z = e'
            · subst h1; rw [updH_eq, updH_ne hne, updH_eq]
            · rw [updH_ne h1]
              by_cases h2 : z = e
              · subst h2; rw [updH_eq, updH_eq]
              · rw [updH_ne h2, updH_ne h2, updH_ne h1]
        rw [this, put_mk s.tmps H1]
        rfl
end
end Go.Proofs.YtennjcjjegbhgaaGreat
