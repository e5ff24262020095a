/-
  Part 6 of a proof (walks and plain facts).
-/
import Derived.Test.YtobnpabndpmabaaGreatP04
import Derived.StillTailTactics
import Derived.Sort.Grow
import Derived.Deep.DeepFit
set_option linter.all false
namespace Go.Proofs.YtobnpabndpmabaaGreat
open Go.RowKit
def Hm : List (Nat × List OObj) → OH
  | [], _ => []
  | (k, F) :: l, a => if a = k then F else Hm l a
def HmOk (H : OH) : List (Nat × List OObj) → Prop
  | [] => True
  | (k, F) :: l => H k = F ∧ HmOk H l
def okAV (ks : List Nat) : AV → Bool
  | .sl a _ _ _ => ks.contains a
  | .ptr a _ _ _ => ks.contains a
  | _ => true
def okTV (ks : List Nat) : TV → Bool
  | .one x => okAV ks x
  | .agg cs => cs.all (okAV ks)
  | .fn _ cs => cs.all (okAV ks)
  | .tup ts => ts.all fun t => t.2.all (okAV ks)
def wkL (ks : List Nat) : List TV → List TV → Prop
  | [], [] => True
  | x :: xs, y :: ys => (y = .one .junk ∨ (y = x ∧ okTV ks y = true)) ∧ wkL ks xs ys
  | _, _ => False
section
variable {P : Program} {w0 w w' : World} {O X : Nat → Prop} {ρ : Rho} {H : OH}
theorem Hm_spec {H : OH} : ∀ {l : List (Nat × List OObj)}, HmOk H l → ∀ a, ((l.map (·.1)).contains a = true → Hm l a = H a) ∧ ((l.map (·.1)).contains a = false → Hm l a = [])
  | [], _, a => ⟨fun h => by simp at h, fun _ => rfl⟩
  | (k, F) :: l, h, a => by
    obtain ⟨h1, h2⟩ := h
    obtain ⟨g1, g2⟩ := Hm_spec h2 a
    by_cases ha : a = k
    · subst ha
      exact ⟨fun _ => by simp [Hm, h1], fun h => by simp at h⟩
    · refine ⟨fun h => ?_, fun h => ?_⟩
      · simp only [Hm, ha, if_false]
        apply g1
        simpa [ha] using h
      · simp only [Hm, ha, if_false]
        apply g2
        simpa [ha] using h
theorem wkL_get {ks : List Nat} : ∀ {l m : List TV}, wkL ks l m → m.length = l.length ∧ ∀ (t : Nat) y, m[t]? = some y → y = .one .junk ∨ (l[t]? = some y ∧ okTV ks y = true)
  | [], [], _ => ⟨rfl, fun t y h => by simp at h⟩
  | x :: xs, y :: ys, h => by
    obtain ⟨h1, h2⟩ := h
    obtain ⟨g1, g2⟩ := wkL_get h2
    refine ⟨by simp [g1], fun t z hz => ?_⟩
    cases t with
    | succ t => simp at hz ⊢; exact g2 t z hz
    | zero =>
      simp at hz
      subst hz
      rcases h1 with h1 | ⟨h1, h3⟩
      · exact .inl h1
      · exact .inr ⟨by simp [h1], h3⟩
  | [], y :: ys, h => h.elim
  | x :: xs, [], h => h.elim
theorem sub_rel {H' : OH} {Y Y' : Nat → Prop} {ks : List Nat} (hk : ∀ a, ks.contains a = true → H' a = H a) (hY : ∀ b, Y' b → Y b) {x : AV} {v : Value} (ho : okAV ks x = true) (h : x.rel ρ H Y w v) : x.rel ρ H' Y' w v := by
  cases x with
  | p x => exact Rep.weaken (fun b _ hb => hY b hb) h
  | sl a r off len =>
    obtain ⟨o, h1, h2⟩ := h
    exact ⟨o, by rw [hk a ho]; exact h1, h2⟩
  | ptr a r i j =>
    obtain ⟨o, b, c, h1, h2⟩ := h
    exact ⟨o, b, c, by rw [hk a ho]; exact h1, h2⟩
  | junk => trivial
theorem Weak_sub {s : AS} {tm : List TV} {l : List (Nat × List OObj)} (hl : HmOk s.H l) (ht : wkL (l.map (·.1)) s.tmps tm) : Weak s ⟨tm, Hm l⟩ := by
  rintro w0 O X a w ⟨h1, hsz, ρ, hinv, htm⟩
  obtain ⟨t1, t2⟩ := wkL_get ht
  have hk := fun a => Hm_spec hl a
  have live : ∀ (a r : Nat) o, (Hm l a)[r]? = some o → (l.map (·.1)).contains a = true ∧ (s.H a)[r]? = some o := fun a r o ho => by
    cases hc : (l.map (·.1)).contains a with
    | false => rw [(hk a).2 hc] at ho; simp at ho
    | true => rw [(hk a).1 hc] at ho; exact ⟨rfl, ho⟩
  have hXo : ∀ b, Xo X ρ (Hm l) b → Xo X ρ s.H b := fun b hb => by
    rcases hb with hb | ⟨x, y, o, n, g1, g2⟩
    · exact .inl hb
    · exact .inr ⟨x, y, o, n, (live x y o g1).2, g2⟩
  have hmap : ∀ x v, okAV (l.map (·.1)) x = true → AV.rel ρ s.H (Xo X ρ s.H) w x v → AV.rel ρ (Hm l) (Xo X ρ (Hm l)) w x v := fun x v ho h => sub_rel (fun a ha => (hk a).1 ha) hXo ho h
  have hagg : ∀ cs v, cs.all (okAV (l.map (·.1))) = true → aggRel ρ s.H (Xo X ρ s.H) w cs v → aggRel ρ (Hm l) (Xo X ρ (Hm l)) w cs v := fun cs v ho h => by
    simp only [List.all_eq_true] at ho
    obtain ⟨vs, g1, g2, g3⟩ := h
    exact ⟨vs, g1, g2, fun j x hx => by obtain ⟨u, u1, u2, u3⟩ := g3 j x hx; exact ⟨u, u1, u2, hmap x u (ho x (List.mem_of_getElem? hx)) u3⟩⟩
  refine ⟨h1, by simp only; omega, ρ, ⟨hinv.keep, fun a r o ho => ?_, fun a r a' r' o o' b c c' ho ho' => hinv.inj a r a' r' o o' b c c' (live a r o ho).2 (live a' r' o' ho').2, fun a r o b c ho => hinv.old a r o b c (live a r o ho).2, hinv.bar, fun a r o ho => hinv.self a r o (live a r o ho).2⟩, fun t x hx => ?_⟩
  · obtain ⟨hc, ho'⟩ := live a r o ho
    obtain ⟨q1, q2, q3⟩ := hinv.objs a r o ho'
    refine ⟨q1, q2, ?_⟩
    cases hr : ρ a r with
    | none => rw [hr] at q3; exact q3
    | some bc =>
      obtain ⟨b, c⟩ := bc
      rw [hr] at q3
      obtain ⟨cells, p1, p2, p3, p4, p5⟩ := q3
      refine ⟨cells, p1, p2, p3, p4, fun i e j x he hx => ?_⟩
      obtain ⟨u, u1, u2, u3⟩ := p5 i e j x he hx
      have hs := hinv.self a r o ho' e (List.mem_of_getElem? he) x (List.mem_of_getElem? hx)
      refine ⟨u, u1, u2, hmap x u ?_ u3⟩
      cases x with
      | sl y _ _ _ => have hs : y = a := hs; subst hs; exact hc
      | ptr y _ _ _ => have hs : y = a := hs; subst hs; exact hc
      | p y => rfl
      | junk => rfl
  · rcases t2 t x hx with rfl | ⟨hx', hok⟩
    · obtain ⟨v, hv⟩ : ∃ v, a.tmps[t]? = some v := by
        have : t < tm.length := (List.getElem?_eq_some_iff.1 hx).1
        exact ⟨_, Array.getElem?_eq_getElem (by omega)⟩
      exact ⟨v, hv, trivial⟩
    · obtain ⟨v, v1, v2⟩ := htm t x hx'
      refine ⟨v, v1, ?_⟩
      cases x with
      | one x => exact hmap x v hok v2
      | agg cs => exact hagg cs v hok v2
      | fn f cs => obtain ⟨u, h1, h2⟩ := v2; exact ⟨u, hagg cs u hok h1, h2⟩
      | tup ts =>
        simp only [okTV, List.all_eq_true] at hok
        obtain ⟨vs, g1, g2, g3⟩ := v2
        refine ⟨vs, g1, g2, fun j b cs hj => ?_⟩
        obtain ⟨u, u1, u2⟩ := g3 j b cs hj
        have hall := hok (b, cs) (List.mem_of_getElem? hj)
        refine ⟨u, u1, ?_⟩
        rcases u2 with ⟨u2, u3⟩ | ⟨u2, y, rfl, u4⟩
        · exact .inl ⟨u2, hagg cs u (by simpa only [List.all_eq_true] using hall) u3⟩
        · exact .inr ⟨u2, y, rfl, hmap y u (hall y (by simp)) u4⟩
theorem Weak_nil {s : AS} {k d : Nat} (ty : TypeId) (es : Nat) (hes : 0 < es) (hd : s.H d = []) (hk : s.tmps[k]? = some (.raw (.slice none 0 0))) : Weak s ⟨s.tmps.set k (.one (.sl d 0 0 0)), updH s.H d [⟨ty, es, []⟩]⟩ := by
  rintro w0 O X a w ⟨h1, hsz, ρ, hinv, htm⟩
  have htm : TmRel X ρ s a w := htm
  obtain ⟨v, v1, v2⟩ := htm k _ hk
  have hv := (rel_raw v2).1
  subst hv
  have hnew : ∀ (r b c : Nat), (fun _ => none : Nat → Option (Nat × Nat)) r = some (b, c) → w.heap.size ≤ b := fun r b c h => by cases h
  have hmono : ∀ x u, AV.rel ρ s.H (Xo X ρ s.H) w x u → AV.rel (newρ ρ d fun _ => none) (updH s.H d [⟨ty, es, []⟩]) (Xo X (newρ ρ d fun _ => none) (updH s.H d [⟨ty, es, []⟩])) w x u := fun x u h => new_mono hinv (Ext.refl w) hd hnew h
  refine ⟨h1, by simpa using hsz, newρ ρ d fun _ => none, ⟨hinv.keep, fun a' r o ho => ?_, fun a' r a'' r' o o' b c c' ho ho' hr hr' => ?_, fun a' r o b c ho hr => ?_, hinv.bar, fun a' r o ho => ?_⟩, fun t x hx => ?_⟩
  · by_cases ha : a' = d
    · subst ha
      simp only [updH_eq] at ho
      cases r with
      | succ r => simp at ho
      | zero => simp at ho; subst ho; exact ⟨by simp, hes, by rw [newρ_eq]⟩
    · simp only [updH_ne ha] at ho
      exact objRel_map (hinv.objs a' r o ho) (newρ_ne ha r) (fun b c hb => rfl) hmono
  · by_cases ha : a' = d
    · subst ha; rw [newρ_eq] at hr; cases hr
    · by_cases ha' : a'' = d
      · subst ha'; rw [newρ_eq] at hr'; cases hr'
      · rw [newρ_ne ha] at hr
        rw [newρ_ne ha'] at hr'
        simp only [updH_ne ha] at ho
        simp only [updH_ne ha'] at ho'
        exact hinv.inj a' r a'' r' o o' b c c' ho ho' hr hr'
  · by_cases ha : a' = d
    · subst ha; rw [newρ_eq] at hr; cases hr
    · rw [newρ_ne ha] at hr
      simp only [updH_ne ha] at ho
      exact hinv.old a' r o b c ho hr
  · by_cases ha : a' = d
    · subst ha
      simp only [updH_eq] at ho
      cases r with
      | succ r => simp at ho
      | zero => simp at ho; subst ho; exact fun e he => by simp at he
    · simp only [updH_ne ha] at ho
      exact hinv.self a' r o ho
  · by_cases hkt : k = t
    · subst hkt
      simp only [List.getElem?_set, if_true] at hx
      split at hx
      · injection hx with hx
        subst hx
        exact ⟨_, v1, ⟨ty, es, []⟩, by show (updH s.H d [⟨ty, es, []⟩] d)[0]? = _; rw [updH_eq]; rfl, by simp, .inl ⟨by rw [newρ_eq], rfl, rfl, rfl⟩⟩
      · cases hx
    · simp only [List.getElem?_set_ne hkt] at hx
      obtain ⟨u, u1, u2⟩ := htm t x hx
      exact ⟨u, u1, TV.rel_map u2 hmono⟩
theorem own_rep {Y Z : Nat → Prop} {a r off len : Nat} {o : OObj} {v : Value} {F : AV → PV} (hob : objRel ρ H Y w a r o) (ho : (H a)[r]? = some o) (hcell : ∀ e ∈ o.elems, ∀ x ∈ e, ∀ u, x.rel ρ H Y w u → Rep Z w (F x) u) (hZb : ∀ b c, ρ a r = some (b, c) → ¬ Z b)
    (h : AV.rel ρ H Y w (.sl a r off len) v) : Rep Z w (.sl (((o.elems.take (off + len)).drop off).map (List.map F))) v := by
  obtain ⟨o', g1, g2, g3⟩ := h
  rw [ho] at g1
  injection g1 with g1
  subst g1
  obtain ⟨q1, q2, q3⟩ := hob
  have hl : (((o.elems.take (off + len)).drop off).map (List.map F)).length = len := by simp; omega
  rcases g3 with ⟨gr, gv, gl, go⟩ | ⟨b, c, gr, gv⟩
  · rw [List.length_eq_zero_iff.1 (hl.trans gl), gv]
    exact Rep.nil _ _
  · by_cases hl0 : len = 0
    · rw [List.length_eq_zero_iff.1 (hl.trans hl0), gv, hl0]
      exact Rep.nil _ _
    · rw [gr] at q3
      obtain ⟨cells, p1, p2, p3, p4, p5⟩ := q3
      have hsub : ∀ (i : Nat) e, (((o.elems.take (off + len)).drop off).map (List.map F))[i]? = some e → ∃ e', o.elems[off + i]? = some e' ∧ e = e'.map F := fun i e he => by
        rw [List.getElem?_map] at he
        obtain ⟨e', he', rfl⟩ := Option.map_eq_some_iff.1 he
        rw [List.getElem?_drop, List.getElem?_take] at he'
        split at he'
        · exact ⟨e', he', rfl⟩
        · cases he'
      have hcl : ∀ (i : Nat) e (j : Nat) x, (((o.elems.take (off + len)).drop off).map (List.map F))[i]? = some e → e[j]? = some x → ∃ u : Value, cells[(off + i) * o.es + j]? = some u ∧ Rep Z w x u := fun i e j x he hx => by
        obtain ⟨e', he', rfl⟩ := hsub i e he
        rw [List.getElem?_map] at hx
        obtain ⟨x', hx', rfl⟩ := Option.map_eq_some_iff.1 hx
        obtain ⟨u, u1, u2, u3⟩ := p5 _ e' j x' he' hx'
        exact ⟨u, u1, hcell e' (List.mem_of_getElem? he') x' (List.mem_of_getElem? hx') u u3⟩
      rw [gv]
      have := Rep.sl (X := Z) (w := w) b (off * o.es) o.es (c - off) (((o.elems.take (off + len)).drop off).map (List.map F)) (fun i j => (cells[(off + i) * o.es + j]?).getD undef) (hZb b c gr) (Array.getElem?_eq_some_iff.1 p1).1
        (fun e he => by
          simp only [List.mem_map] at he
          obtain ⟨e', he', rfl⟩ := he
          rw [List.length_map]
          exact q1 e' (List.mem_of_mem_take (List.mem_of_mem_drop he'))) (by omega) (by omega)
        (fun i e j x he hx => by
          obtain ⟨u, u1, _⟩ := hcl i e j x he hx
          rw [cell_of_row _ b _ cells o.ty (0, 0) p1, ← Nat.add_mul, u1]
          rfl)
        (fun i e j x he hx => by
          obtain ⟨u, u1, u2⟩ := hcl i e j x he hx
          simp only [u1, Option.getD_some]; exact u2)
      rw [hl] at this
      exact this
def cellF (H : OH) (a : Nat) : AV → PV
  | .p x => x
  | .sl _ r off len => match (H a)[r]? with
    | some o => .sl (((o.elems.take (off + len)).drop off).map (List.map unP))
    | none => .raw undef
  | _ => .raw undef
def fzAV (H : OH) (a : Nat) : AV → AV
  | .sl b r off len => if b = a then (match (H a)[r]? with
    | some o => .p (.sl (((o.elems.take (off + len)).drop off).map (List.map (cellF H a))))
    | none => .junk) else .sl b r off len
  | .ptr b r i j => if b = a then .junk else .ptr b r i j
  | x => x
def fzTV (H : OH) (a : Nat) : TV → TV
  | .one x => .one (fzAV H a x)
  | .agg cs => .agg (cs.map (fzAV H a))
  | .fn f cs => .fn f (cs.map (fzAV H a))
  | .tup ts => .tup (ts.map fun t => (t.1, t.2.map (fzAV H a)))
def pureRow (o : OObj) : Prop := ∀ e ∈ o.elems, ∀ x ∈ e, isPure x = true
def fzOk (H : OH) (a : Nat) : Prop := ∀ (r : Nat) o, (H a)[r]? = some o → ∀ e ∈ o.elems, ∀ x ∈ e, isPure x = true ∨ ∃ r' off len o', x = .sl a r' off len ∧ (H a)[r']? = some o' ∧ pureRow o'
theorem Weak_fz {s : AS} (a : Nat) (hok : fzOk s.H a) : Weak s ⟨s.tmps.map (fzTV s.H a), updH s.H a []⟩ := by
  rintro w0 O X act w ⟨h1, hsz, ρ, hinv, htm⟩
  have htm : TmRel X ρ s act w := htm
  have hna : ∀ (x y : Nat) o, (updH s.H a [] x)[y]? = some o → x ≠ a ∧ (s.H x)[y]? = some o := fun x y o ho => by
    by_cases hx : x = a
    · subst hx; rw [updH_eq] at ho; simp at ho
    · rw [updH_ne hx] at ho; exact ⟨hx, ho⟩
  have hXo : ∀ b, Xo X ρ (updH s.H a []) b → Xo X ρ s.H b := fun b hb => by
    rcases hb with hb | ⟨x, y, o, n, g1, g2⟩
    · exact .inl hb
    · exact .inr ⟨x, y, o, n, (hna x y o g1).2, g2⟩
  have hZb : ∀ (r : Nat) o, (s.H a)[r]? = some o → ∀ b c, ρ a r = some (b, c) → ¬ Xo X ρ (updH s.H a []) b := fun r o ho b c hr hX => by
    rcases hX with hX | ⟨x, y, o', n, g1, g2⟩
    · exact (hinv.old a r o b c ho hr).2 hX
    · obtain ⟨hx, g1'⟩ := hna x y o' g1
      exact hx (hinv.inj x y a r o' o b n c g1' ho g2 hr).1
  have hpure : ∀ x u, isPure x = true → AV.rel ρ s.H (Xo X ρ s.H) w x u → Rep (Xo X ρ (updH s.H a [])) w (unP x) u := fun x u hp h => by
    cases x <;> first | exact Rep.weaken (fun b _ hb => hXo b hb) h | cases hp
  have hcell : ∀ (r : Nat) o, (s.H a)[r]? = some o → ∀ e ∈ o.elems, ∀ x ∈ e, ∀ u, AV.rel ρ s.H (Xo X ρ s.H) w x u → Rep (Xo X ρ (updH s.H a [])) w (cellF s.H a x) u := fun r o ho e he x hx u hu => by
    rcases hok r o ho e he x hx with hp | ⟨r', off, len, o', rfl, ho', hpr⟩
    · have := hpure x u hp hu
      cases x <;> first | exact this | cases hp
    · simp only [cellF, ho']
      exact own_rep (hinv.objs a r' o' ho') ho' (fun e he y hy u hu => hpure y u (hpr e he y hy) hu) (hZb r' o' ho') hu
  have hmap : ∀ x v, AV.rel ρ s.H (Xo X ρ s.H) w x v → AV.rel ρ (updH s.H a []) (Xo X ρ (updH s.H a [])) w (fzAV s.H a x) v := fun x v h => by
    cases x with
    | p x => exact Rep.weaken (fun b _ hb => hXo b hb) h
    | sl b r off len =>
      simp only [fzAV]
      by_cases hb : b = a
      · subst hb
        rw [if_pos rfl]
        have h' := h
        obtain ⟨o, g1, g2, g3⟩ := h
        rw [g1]
        exact own_rep (hinv.objs b r o g1) g1 (hcell r o g1) (hZb r o g1) h'
      · rw [if_neg hb]
        obtain ⟨o, g1, g2⟩ := h
        exact ⟨o, by rw [updH_ne hb]; exact g1, g2⟩
    | ptr b r i j =>
      simp only [fzAV]
      by_cases hb : b = a
      · subst hb; rw [if_pos rfl]; trivial
      · rw [if_neg hb]
        obtain ⟨o, b', c, g1, g2⟩ := h
        exact ⟨o, b', c, by rw [updH_ne hb]; exact g1, g2⟩
    | junk => trivial
  have hagg : ∀ cs v, aggRel ρ s.H (Xo X ρ s.H) w cs v → aggRel ρ (updH s.H a []) (Xo X ρ (updH s.H a [])) w (cs.map (fzAV s.H a)) v := fun cs v h => by
    obtain ⟨vs, g1, g2, g3⟩ := h
    refine ⟨vs, g1, by simpa using g2, fun j x hx => ?_⟩
    rw [List.getElem?_map] at hx
    obtain ⟨y, hy, rfl⟩ := Option.map_eq_some_iff.1 hx
    obtain ⟨u, u1, u2, u3⟩ := g3 j y hy
    exact ⟨u, u1, u2, hmap y u u3⟩
  refine ⟨h1, by simpa using hsz, ρ, ⟨hinv.keep, fun x y o ho => ?_, fun x y x' y' o o' b c c' ho ho' => hinv.inj x y x' y' o o' b c c' (hna x y o ho).2 (hna x' y' o' ho').2, fun x y o b c ho => hinv.old x y o b c (hna x y o ho).2, hinv.bar, fun x y o ho => hinv.self x y o (hna x y o ho).2⟩, fun t x hx => ?_⟩
  · obtain ⟨hx, ho'⟩ := hna x y o ho
    obtain ⟨q1, q2, q3⟩ := hinv.objs x y o ho'
    refine ⟨q1, q2, ?_⟩
    cases hr : ρ x y with
    | none => rw [hr] at q3; exact q3
    | some bc =>
      obtain ⟨b, c⟩ := bc
      rw [hr] at q3
      obtain ⟨cells, p1, p2, p3, p4, p5⟩ := q3
      refine ⟨cells, p1, p2, p3, p4, fun i e j z he hz => ?_⟩
      obtain ⟨u, u1, u2, u3⟩ := p5 i e j z he hz
      have hs := hinv.self x y o ho' e (List.mem_of_getElem? he) z (List.mem_of_getElem? hz)
      have := hmap z u u3
      refine ⟨u, u1, u2, ?_⟩
      cases z with
      | sl z _ _ _ => have hs : z = x := hs; subst hs; simpa [fzAV, hx] using this
      | ptr z _ _ _ => have hs : z = x := hs; subst hs; simpa [fzAV, hx] using this
      | p z => exact this
      | junk => trivial
  · simp only [List.getElem?_map] at hx
    obtain ⟨y, hy, rfl⟩ := Option.map_eq_some_iff.1 hx
    obtain ⟨v, v1, v2⟩ := htm t y hy
    refine ⟨v, v1, ?_⟩
    cases y with
    | one x => exact hmap x v v2
    | agg cs => exact hagg cs v v2
    | fn f cs => obtain ⟨u, h1, h2⟩ := v2; exact ⟨u, hagg cs u h1, h2⟩
    | tup ts =>
      obtain ⟨vs, g1, g2, g3⟩ := v2
      refine ⟨vs, g1, by simpa using g2, fun j b cs hj => ?_⟩
      rw [List.getElem?_map] at hj
      obtain ⟨z, hz, hzz⟩ := Option.map_eq_some_iff.1 hj
      obtain ⟨b', cs'⟩ := z
      simp at hzz
      obtain ⟨rfl, rfl⟩ := hzz
      obtain ⟨u, u1, u2⟩ := g3 j b' cs' hz
      refine ⟨u, u1, ?_⟩
      rcases u2 with ⟨u2, u3⟩ | ⟨u2, q, rfl, u4⟩
      · exact .inl ⟨u2, hagg _ _ u3⟩
      · exact .inr ⟨u2, _, rfl, hmap q u u4⟩
end
end Go.Proofs.YtobnpabndpmabaaGreat
namespace Go.Proofs.YtobnpabndpmabaaGreat
open Go.RowKit
section
variable {P : Program} {s : AS} {Q : Exit → AS → Prop} {x y z : Code}
theorem WpA_sreg (items : List (CItem P)) (ow : List Nat) {id : Nat} {ops : Array Oper} (hl : s.tmps.length ≤ 1000000) (h : ∀ K : AS → Prop, (∀ s', WpA P y Q s' → K s') → runS P (items.map CItem.a) ow (prepL ops ops.toList 0) (some s) K) : WpA P (.seq (.region id ops false) y) Q s :=
  WpA_seq (WpA_reg items ow hl (h _ fun _ h => h))
theorem WpA_lreg (items : List (CItem P)) (ow : List Nat) {id : Nat} {ops : Array Oper} (hl : s.tmps.length ≤ 1000000) (h : ∀ K : AS → Prop, (∀ s', Q .normal s' → K s') → runS P (items.map CItem.a) ow (prepL ops ops.toList 0) (some s) K) : WpA P (.region id ops false) Q s :=
  WpA_reg items ow hl (h _ fun _ h => h)
theorem WpA_for {G : Type} (St : G → AS) (μ : G → Nat) (g0 : G) {id : Nat} (h0 : Weak s (St g0))
    (round : ∀ g, WpA P x (thenA (fun s' => ∃ g', μ g' < μ g ∧ Weak s' (St g')) (blockA id (thenA (WpA P y Q) Q))) (St g)) : WpA P (.seq (.block id (.loop x)) y) Q s :=
  WpA_seq (WpA_block (WpA_loop St μ g0 h0 round))
theorem WpA_forb {G : Type} (St : G → AS) (μ : G → Nat) (g0 : G) {id : Nat} (h0 : Weak s (St g0))
    (round : ∀ g, WpA P x (thenA (fun s' => ∃ g', μ g' < μ g ∧ Weak s' (St g')) (blockA id Q)) (St g)) : WpA P (.block id (.loop x)) Q s :=
  WpA_block (WpA_loop St μ g0 h0 round)
theorem wrapI {n : Int} (h1 : -9223372036854775808 ≤ n) (h2 : n ≤ 9223372036854775807) : IntKind.i64.wrap n = n := IntWalk.i64_in _ (by omega)
theorem wrapU {n : Int} (h1 : 0 ≤ n) (h2 : n < 18446744073709551616) : IntKind.u64.wrap n = n := by rw [IntKind.wrap_u64]; omega
theorem callC_len {f : FuncId} {args : List TV} {res : CallRes} (k : Nat) (xs : List (List PV)) (hk : args[k]? = some (.one (.p (.sl xs)))) (h : xs.length ≤ 9223372036854775807 → CallC P f args res) (hc : callable P f = true) : CallC P f args res := by
  refine ⟨hc, fun X w vs hX hvs hargs => ?_⟩
  obtain ⟨v, _, hr⟩ := hargs k _ hk
  have hr : Rep X w (.sl xs) v := hr
  refine (h ?_).2 X w vs hX hvs hargs
  cases hr with
  | nil a c => simp
  | sl b off es cap xs f hX hb hes hcap hm hc hr => exact hm
end
end Go.Proofs.YtobnpabndpmabaaGreat
namespace Go.Proofs.YtobnpabndpmabaaGreat
open Go.RowKit
def ls {α : Type} (f : α → List PV) (l : List α) : List (List PV) := l.map f
def lc {α : Type} (f : α → List PV) (l : List α) : List (List AV) := l.map fun x => (f x).map AV.p
section
variable {α : Type} {f : α → List PV}
theorem ls_len (l : List α) : (ls f l).length = l.length := by simp [ls]
theorem lc_len (l : List α) : (lc f l).length = l.length := by simp [lc]
theorem ls_get (l : List α) (i : Nat) : (ls f l)[i]? = (l[i]?).map f := by simp [ls]
theorem lc_get (l : List α) (i : Nat) : (lc f l)[i]? = (l[i]?).map fun x => (f x).map AV.p := by simp [lc]
theorem ls_take (l : List α) (i : Nat) : (ls f l).take i = ls f (l.take i) := by simp [ls]
theorem ls_drop (l : List α) (i : Nat) : (ls f l).drop i = ls f (l.drop i) := by simp [ls]
theorem lc_take (l : List α) (i : Nat) : (lc f l).take i = lc f (l.take i) := by simp [lc]
theorem lc_drop (l : List α) (i : Nat) : (lc f l).drop i = lc f (l.drop i) := by simp [lc]
theorem ls_own (l : List α) : (ls f l).map (List.map AV.p) = lc f l := by simp [ls, lc]
theorem map_unP (l : List PV) : (l.map AV.p).map unP = l := by rw [List.map_map]; exact (List.map_congr_left (fun _ _ => rfl)).trans (List.map_id l)
theorem lc_pure (l : List α) : (lc f l).map (List.map unP) = ls f l := by
  simp only [ls, lc, List.map_map]
  exact List.map_congr_left fun x _ => map_unP (f x)
theorem lc_cellF (H : OH) (a : Nat) (l : List α) : (lc f l).map (List.map (cellF H a)) = ls f l := by
  simp only [ls, lc, List.map_map]
  refine List.map_congr_left fun x _ => ?_
  show ((f x).map AV.p).map (cellF H a) = f x
  rw [List.map_map]; exact (List.map_congr_left (fun _ _ => rfl)).trans (List.map_id _)
theorem lc_allp (l : List α) : ((lc f l).all fun e => e.all isPure) = true := by
  simp [lc, isPure]
theorem lc_app (l m : List α) : lc f l ++ lc f m = lc f (l ++ m) := by simp [lc]
theorem ls_cons (x : α) (l : List α) : ls f (x :: l) = f x :: ls f l := rfl
theorem ls_nil : ls f [] = [] := rfl
theorem lc_set (l : List α) (i : Nat) (x : α) : (lc f l).set i ((f x).map AV.p) = lc f (l.set i x) := by simp [lc, List.map_set]
theorem ls_all {n : Nat} (hf : ∀ x, (f x).length = n) (l : List α) : (∀ c ∈ ls f l, c.length = n) = True := by
  simp only [eq_iff_iff, iff_true]
  intro c hc
  obtain ⟨x, _, rfl⟩ := List.mem_map.1 hc
  exact hf x
theorem lc_all {n : Nat} (hf : ∀ x, (f x).length = n) (l : List α) : (∀ c ∈ lc f l, c.length = n) = True := by
  simp only [eq_iff_iff, iff_true]
  intro c hc
  obtain ⟨x, _, rfl⟩ := List.mem_map.1 hc
  rw [List.length_map]; exact hf x
theorem lc_kill (k : Nat → Nat → Bool) (l : List α) : (lc f l).map (List.map (killAV k)) = lc f l := by
  simp only [lc, List.map_map]
  refine List.map_congr_left fun x _ => ?_
  show ((f x).map AV.p).map (killAV k) = _
  rw [List.map_map]; exact List.map_congr_left (fun _ _ => rfl)
theorem lc_ren (d : Nat) (l : List α) : (lc f l).map (List.map (renAV d)) = lc f l := by
  simp only [lc, List.map_map]
  refine List.map_congr_left fun x _ => ?_
  show ((f x).map AV.p).map (renAV d) = _
  rw [List.map_map]; exact List.map_congr_left (fun _ _ => rfl)
theorem natOf_pos {z : Int} (h : 0 ≤ z) : natOf z = some z.toNat := if_pos h
theorem pureRow_lc (t : TypeId) (n : Nat) (l : List α) : pureRow ⟨t, n, lc f l⟩ := fun e he x hx => by
  obtain ⟨y, _, rfl⟩ := List.mem_map.1 he
  obtain ⟨z, _, rfl⟩ := List.mem_map.1 hx
  rfl
theorem fzOk_one {H : OH} {a : Nat} {t : TypeId} {n : Nat} {l : List α} (h : H a = [⟨t, n, lc f l⟩]) : fzOk H a := fun r o ho e he x hx => by
  rw [h] at ho
  cases r with
  | succ r => simp at ho
  | zero => simp at ho; subst ho; exact .inl (pureRow_lc t n l e he x hx)
end
theorem allnil {β : Type} (p : β → Prop) : (∀ e ∈ ([] : List β), p e) = True := by simp
theorem allcons {β : Type} (p : β → Prop) (x : β) (l : List β) : (∀ e ∈ x :: l, p e) = (p x ∧ ∀ e ∈ l, p e) := by simp
theorem ifT {c : Prop} [Decidable c] (h : c) {β : Type} (a b : β) : (if c then a else b) = a := if_pos h
theorem ifF {c : Prop} [Decidable c] (h : ¬ c) {β : Type} (a b : β) : (if c then a else b) = b := if_neg h
theorem decT {c : Prop} [Decidable c] (h : c) : decide c = true := decide_eq_true h
theorem decF {c : Prop} [Decidable c] (h : ¬ c) : decide c = false := decide_eq_false h
def fU (n : Nat) : List PV := [.raw (.int .u32 (n : Int))]
theorem fU_len (n : Nat) : (fU n).length = 1 := rfl
def fI (z : Int) : List PV := [.raw (.int .i64 z)]
theorem fI_len (n : Int) : (fI n).length = 1 := rfl
def fN (z : Nat) : List PV := [.raw (.int .i64 (z : Int))]
theorem noRef_self {d : Nat} {t : TV} (h : noRefTV t = true) : selfTV d t ∧ renTV 0 t = t := by
  have av : ∀ x, noRefAV x = true → selfAV d x ∧ renAV 0 x = x := fun x hx => by cases x <;> first | exact ⟨trivial, rfl⟩ | cases hx
  cases t with
  | one x => exact ⟨(av x h).1, by simp only [renTV, (av x h).2]⟩
  | agg cs =>
    simp only [noRefTV, List.all_eq_true] at h
    exact ⟨fun x hx => (av x (h x hx)).1, by simp only [renTV]; congr 1; exact (List.map_congr_left fun x hx => (av x (h x hx)).2).trans (List.map_id _)⟩
  | fn f cs =>
    simp only [noRefTV, List.all_eq_true] at h
    exact ⟨fun x hx => (av x (h x hx)).1, by simp only [renTV]; congr 1; exact (List.map_congr_left fun x hx => (av x (h x hx)).2).trans (List.map_id _)⟩
  | tup ts =>
    simp only [noRefTV, List.all_eq_true] at h
    refine ⟨fun t ht x hx => (av x (h t ht x hx)).1, ?_⟩
    simp only [renTV]
    congr 1
    refine (List.map_congr_left fun t ht => ?_).trans (List.map_id _)
    show (t.1, t.2.map (renAV 0)) = t
    rw [(List.map_congr_left fun x hx => (av x (h t ht x hx)).2).trans (List.map_id t.2)]
theorem lcU_snoc (l : List Nat) (a : Nat) : lc fU l ++ [[AV.p (.raw (.int .u32 (a : Int)))]] = lc fU (l ++ [a]) := by simp [lc, fU]
theorem lcI_snoc (l : List Int) (a : Int) : lc fI l ++ [[AV.p (.raw (.int .i64 a))]] = lc fI (l ++ [a]) := by simp [lc, fI]
theorem lcN_snoc (l : List Nat) (a : Nat) : lc fN l ++ [[AV.p (.raw (.int .i64 (a : Int)))]] = lc fN (l ++ [a]) := by simp [lc, fN]
theorem ret_pure {P : Program} {fn : Func} {s : AS} {r : TV} {d : Nat} (hd : s.H d = []) (h : resA P s fn.results.toList = some r) (hp : noRefTV r = true) : RetOk P fn ⟨[], r⟩ s :=
  ⟨r, d, h, (noRef_self hp).1, by rw [hd]; rfl, (noRef_self (d := 0) hp).2.symm⟩
theorem ret_fz {P : Program} {fn : Func} {s : AS} {r : TV} (d : Nat) (hok : fzOk s.H d) (h : resA P ⟨s.tmps.map (fzTV s.H d), updH s.H d []⟩ fn.results.toList = some r) (hp : noRefTV r = true) : ∃ s', Weak s s' ∧ RetOk P fn ⟨[], r⟩ s' :=
  ⟨_, Weak_fz d hok, ret_pure (d := d) (by simp [updH]) h hp⟩
theorem ret_now {P : Program} {fn : Func} {s : AS} {r : TV} (hd : s.H 1000 = []) (h : resA P s fn.results.toList = some r) (hp : noRefTV r = true) : ∃ s', Weak s s' ∧ RetOk P fn ⟨[], r⟩ s' :=
  ⟨_, Weak.refl _, ret_pure hd h hp⟩
end Go.Proofs.YtobnpabndpmabaaGreat
namespace Go.Proofs.YtobnpabndpmabaaGreat
theorem ty_agg122 : aggO Tryz.prog 122 = some false := by kernel_rfl
theorem ty_agg132 : aggO Tryz.prog 132 = some true := by kernel_rfl
theorem ty_agg154 : aggO Tryz.prog 154 = some false := by kernel_rfl
theorem ty_agg2 : aggO Tryz.prog 2 = some false := by kernel_rfl
theorem ty_agg22 : aggO Tryz.prog 22 = some false := by kernel_rfl
theorem ty_agg24 : aggO Tryz.prog 24 = some true := by kernel_rfl
theorem ty_agg29 : aggO Tryz.prog 29 = some false := by kernel_rfl
theorem ty_agg3 : aggO Tryz.prog 3 = some false := by kernel_rfl
theorem ty_agg4 : aggO Tryz.prog 4 = some false := by kernel_rfl
theorem ty_agg5 : aggO Tryz.prog 5 = some false := by kernel_rfl
theorem ty_agg71 : aggO Tryz.prog 71 = some true := by kernel_rfl
theorem ty_agg77 : aggO Tryz.prog 77 = some false := by kernel_rfl
theorem ty_agg79 : aggO Tryz.prog 79 = some true := by kernel_rfl
theorem ty_bool3 : boolO Tryz.prog 3 = false := by kernel_rfl
theorem ty_bool4 : boolO Tryz.prog 4 = true := by kernel_rfl
theorem ty_by122 : byO Tryz.prog 122 = some 24 := by kernel_rfl
theorem ty_by154 : byO Tryz.prog 154 = some 4 := by kernel_rfl
theorem ty_by2 : byO Tryz.prog 2 = some 8 := by kernel_rfl
theorem ty_by29 : byO Tryz.prog 29 = some 24 := by kernel_rfl
theorem ty_by3 : byO Tryz.prog 3 = some 8 := by kernel_rfl
theorem ty_by71 : byO Tryz.prog 71 = some 32 := by kernel_rfl
theorem ty_by79 : byO Tryz.prog 79 = some 32 := by kernel_rfl
theorem ty_fld132_0 : fieldO Tryz.prog 132 0 = some (0, 79) := by kernel_rfl
theorem ty_fld132_1 : fieldO Tryz.prog 132 1 = some (2, 79) := by kernel_rfl
theorem ty_fld24_0 : fieldO Tryz.prog 24 0 = some (0, 5) := by kernel_rfl
theorem ty_fld24_1 : fieldO Tryz.prog 24 1 = some (1, 5) := by kernel_rfl
theorem ty_fld24_2 : fieldO Tryz.prog 24 2 = some (2, 22) := by kernel_rfl
theorem ty_fld71_0 : fieldO Tryz.prog 71 0 = some (0, 2) := by kernel_rfl
theorem ty_fld71_1 : fieldO Tryz.prog 71 1 = some (1, 29) := by kernel_rfl
theorem ty_fld79_0 : fieldO Tryz.prog 79 0 = some (0, 4) := by kernel_rfl
theorem ty_fld79_1 : fieldO Tryz.prog 79 1 = some (1, 77) := by kernel_rfl
theorem ty_int154 : intO Tryz.prog 154 = some .u32 := by kernel_rfl
theorem ty_int2 : intO Tryz.prog 2 = some .i64 := by kernel_rfl
theorem ty_int3 : intO Tryz.prog 3 = some .i64 := by kernel_rfl
theorem ty_int35 : intO Tryz.prog 35 = some .u64 := by kernel_rfl
theorem ty_int5 : intO Tryz.prog 5 = some .u8 := by kernel_rfl
theorem ty_plc132 : placesO Tryz.prog 132 = some [(0, 2), (2, 2)] := by kernel_rfl
theorem ty_plc57 : placesO Tryz.prog 57 = some [(0, 1), (1, 1)] := by kernel_rfl
theorem ty_plc71 : placesO Tryz.prog 71 = some [(0, 1), (1, 1)] := by kernel_rfl
theorem ty_plc79 : placesO Tryz.prog 79 = some [(0, 1), (1, 1)] := by kernel_rfl
theorem ty_slice122 : sliceO Tryz.prog 122 = some 79 := by kernel_rfl
theorem ty_slice138 : sliceO Tryz.prog 138 = some 3 := by kernel_rfl
theorem ty_slice25 : sliceO Tryz.prog 25 = some 22 := by kernel_rfl
theorem ty_slice26 : sliceO Tryz.prog 26 = some 29 := by kernel_rfl
theorem ty_slice29 : sliceO Tryz.prog 29 = some 2 := by kernel_rfl
theorem ty_slice50 : sliceO Tryz.prog 50 = some 122 := by kernel_rfl
theorem ty_slice68 : sliceO Tryz.prog 68 = some 71 := by kernel_rfl
theorem ty_slice77 : sliceO Tryz.prog 77 = some 154 := by kernel_rfl
theorem ty_sz122 : szO Tryz.prog 122 = some 1 := by kernel_rfl
theorem ty_sz132 : szO Tryz.prog 132 = some 4 := by kernel_rfl
theorem ty_sz154 : szO Tryz.prog 154 = some 1 := by kernel_rfl
theorem ty_sz2 : szO Tryz.prog 2 = some 1 := by kernel_rfl
theorem ty_sz22 : szO Tryz.prog 22 = some 1 := by kernel_rfl
theorem ty_sz24 : szO Tryz.prog 24 = some 4 := by kernel_rfl
theorem ty_sz29 : szO Tryz.prog 29 = some 1 := by kernel_rfl
theorem ty_sz3 : szO Tryz.prog 3 = some 1 := by kernel_rfl
theorem ty_sz4 : szO Tryz.prog 4 = some 1 := by kernel_rfl
theorem ty_sz5 : szO Tryz.prog 5 = some 1 := by kernel_rfl
theorem ty_sz71 : szO Tryz.prog 71 = some 2 := by kernel_rfl
theorem ty_sz77 : szO Tryz.prog 77 = some 1 := by kernel_rfl
theorem ty_sz79 : szO Tryz.prog 79 = some 2 := by kernel_rfl
theorem ty_zero122 : zeroO Tryz.prog 122 = some [(.slice none 0 0)] := by kernel_rfl
theorem ty_zero132 : zeroO Tryz.prog 132 = some [(.bool false), (.slice none 0 0), (.bool false), (.slice none 0 0)] := by kernel_rfl
theorem ty_zero154 : zeroO Tryz.prog 154 = some [(.int .u32 0)] := by kernel_rfl
theorem ty_zero2 : zeroO Tryz.prog 2 = some [(.int .i64 0)] := by kernel_rfl
theorem ty_zero29 : zeroO Tryz.prog 29 = some [(.slice none 0 0)] := by kernel_rfl
theorem ty_zero3 : zeroO Tryz.prog 3 = some [(.int .i64 0)] := by kernel_rfl
theorem ty_zero57 : zeroO Tryz.prog 57 = some [(.slice none 0 0), (.int .i64 0)] := by kernel_rfl
theorem ty_zero71 : zeroO Tryz.prog 71 = some [(.int .i64 0), (.slice none 0 0)] := by kernel_rfl
theorem ty_zero79 : zeroO Tryz.prog 79 = some [(.bool false), (.slice none 0 0)] := by kernel_rfl
theorem mixedA : Tryz.prog.follows .mixedOrders = true := by kernel_rfl
end Go.Proofs.YtobnpabndpmabaaGreat
namespace Go.Proofs.YtobnpabndpmabaaGreat
open Go.RowKit
def natV : List Nat → Nat
  | [] => 0
  | a :: l => a + 4294967296 * natV l
def Lmb (l : List Nat) : Prop := ∀ a ∈ l, a < 4294967296
def Can (l : List Nat) : Prop := l.getLast? ≠ some 0
def trimL : List Nat → List Nat
  | [] => []
  | a :: l => match trimL l with
    | [] => if a = 0 then [] else [a]
    | b :: m => a :: b :: m
theorem natV_append (x y : List Nat) : natV (x ++ y) = natV x + 4294967296 ^ x.length * natV y := by
  induction x with
  | nil => simp [natV]
  | cons a l ih => simp [natV, ih, Nat.pow_succ, Nat.mul_add, Nat.mul_assoc, Nat.add_assoc, Nat.mul_comm]
theorem natV_lt {l : List Nat} (h : Lmb l) : natV l < 4294967296 ^ l.length := by
  induction l with
  | nil => simp [natV]
  | cons a l ih =>
    have ha := h a List.mem_cons_self
    have := ih (fun b hb => h b (List.mem_cons_of_mem _ hb))
    rw [List.length_cons, Nat.pow_succ, natV]
    have h2 : 4294967296 * (natV l + 1) ≤ 4294967296 * 4294967296 ^ l.length := Nat.mul_le_mul_left _ this
    rw [Nat.mul_comm (4294967296 ^ l.length)]
    omega
theorem natV_trim (l : List Nat) : natV (trimL l) = natV l := by
  induction l with
  | nil => rfl
  | cons a l ih =>
    unfold trimL
    split
    · rename_i h
      rw [h] at ih
      simp [natV] at ih
      split
      · rename_i h0; simp [natV, ← ih, h0]
      · simp [natV, ← ih]
    · rename_i b m h
      rw [h] at ih
      simp [natV, ← ih]
theorem trim_can (l : List Nat) : Can (trimL l) := by
  induction l with
  | nil => simp [Can, trimL]
  | cons a l ih =>
    unfold trimL
    split
    · split
      · simp [Can]
      · rename_i h0; simp [Can, h0]
    · rename_i b m h
      rw [h] at ih
      unfold Can at *
      rw [List.getLast?_cons_cons]; exact ih
theorem trim_len (l : List Nat) : (trimL l).length ≤ l.length := by
  induction l with
  | nil => simp [trimL]
  | cons a l ih =>
    unfold trimL
    split
    · split <;> simp
    · rename_i b m h; rw [h] at ih; simp at ih ⊢; omega
theorem can_cons {a : Nat} {l : List Nat} (h : Can (a :: l)) : Can l := by
  cases l with
  | nil => simp [Can]
  | cons b m => unfold Can at *; rw [List.getLast?_cons_cons] at h; exact h
theorem trim_of_can {l : List Nat} (h : Can l) : trimL l = l := by
  induction l with
  | nil => rfl
  | cons a l ih =>
    have e := ih (can_cons h)
    unfold trimL
    rw [e]
    cases l with
    | nil => simp [Can] at h; simp [h]
    | cons b m => rfl
theorem trim_snoc_zero (l : List Nat) : trimL (l ++ [0]) = trimL l := by
  induction l with
  | nil => simp [trimL]
  | cons a l ih => rw [List.cons_append, trimL, ih]; rfl
theorem trim_snoc {l : List Nat} {a : Nat} (h : a ≠ 0) : trimL (l ++ [a]) = l ++ [a] := trim_of_can (by simp [Can, h])
theorem trim_lmb {l : List Nat} (h : Lmb l) : Lmb (trimL l) := by
  induction l with
  | nil => exact h
  | cons a l ih =>
    have ih := ih (fun b hb => h b (List.mem_cons_of_mem _ hb))
    unfold trimL
    split
    · split
      · intro b hb; simp at hb
      · intro b hb; simp at hb; subst hb; exact h _ List.mem_cons_self
    · rename_i b m hh
      rw [hh] at ih
      intro c hc
      rcases List.mem_cons.1 hc with rfl | hc
      · exact h _ List.mem_cons_self
      · exact ih c hc
theorem can_ge {l : List Nat} (h : Can l) (hne : l ≠ []) : 4294967296 ^ (l.length - 1) ≤ natV l := by
  induction l with
  | nil => exact absurd rfl hne
  | cons a l ih =>
    cases l with
    | nil => simp [Can] at h; simp [natV]; omega
    | cons b m =>
      have := ih (can_cons h) (by simp)
      simp only [List.length_cons, Nat.add_sub_cancel] at this ⊢
      rw [natV, Nat.pow_succ, Nat.mul_comm (4294967296 ^ m.length)]
      have h2 := Nat.mul_le_mul_left 4294967296 this
      omega
theorem can_len_le {l : List Nat} {k : Nat} (h : Can l) (hv : natV l < 4294967296 ^ k) : l.length ≤ k := by
  by_cases hne : l = []
  · subst hne; simp
  · have := can_ge h hne
    have h2 : 4294967296 ^ (l.length - 1) < 4294967296 ^ k := Nat.lt_of_le_of_lt this hv
    have := (Nat.pow_lt_pow_iff_right (by omega : 1 < 4294967296)).1 h2
    omega
theorem can_inj {l m : List Nat} (hl : Lmb l) (hm : Lmb m) (cl : Can l) (cm : Can m) (h : natV l = natV m) : l = m := by
  induction l generalizing m with
  | nil =>
    cases m with
    | nil => rfl
    | cons b m =>
      have := can_ge cm (by simp)
      have : 0 < 4294967296 ^ ((b :: m).length - 1) := Nat.pow_pos (by omega)
      rw [← h] at *
      simp [natV] at *
  | cons a l ih =>
    cases m with
    | nil =>
      have := can_ge cl (by simp)
      have : 0 < 4294967296 ^ ((a :: l).length - 1) := Nat.pow_pos (by omega)
      rw [h] at *
      simp [natV] at *
    | cons b m =>
      have ha := hl a List.mem_cons_self
      have hb := hm b List.mem_cons_self
      simp only [natV] at h
      have e1 : a = b := by omega
      have e2 : natV l = natV m := by omega
      rw [e1, ih (fun c hc => hl c (List.mem_cons_of_mem _ hc)) (fun c hc => hm c (List.mem_cons_of_mem _ hc)) (can_cons cl) (can_cons cm) e2]
def RdU (w : World) (A : Option Addr) (l : List Nat) : Prop := RdI .u32 w A (l.map fun n : Nat => (n : Int))
theorem RdU.ext {w w' : World} {A : Option Addr} {l : List Nat} (h : RdU w A l) (e : Ext w w') : RdU w' A l := RdI.ext h e
theorem RdU.nil (w : World) (A : Option Addr) : RdU w A [] := RdI.nil _ _ _
theorem RdU.at_ {w : World} {A : Option Addr} {l : List Nat} (h : RdU w A l) {i z : Nat} (hi : l[i]? = some z) :
    ∃ b off, A = some ⟨b, off, none⟩ ∧ w.cell? ⟨b, off + i, none⟩ = some (.int .u32 (z : Int)) := RdI.at_ h (by simp [hi])
def sgn (neg : Bool) (n : Nat) : Int := if neg then -(n : Int) else n
def IntV (w : World) (v : Value) (z : Int) (k : Nat) : Prop :=
  ∃ neg A c l, v = .agg #[.bool neg, .slice A l.length c] ∧ l.length ≤ c ∧ RdU w A l ∧ Lmb l ∧ Can l ∧ z = sgn neg (natV l) ∧ l.length ≤ k ∧ (l = [] → neg = false)
theorem IntV.ext {w w' : World} {v : Value} {z : Int} {k : Nat} (h : IntV w v z k) (e : Ext w w') : IntV w' v z k := by
  obtain ⟨neg, A, c, l, h1, h2, h3, h4⟩ := h
  exact ⟨neg, A, c, l, h1, h2, h3.ext e, h4⟩
theorem IntV.mono {w : World} {v : Value} {z : Int} {k k' : Nat} (h : IntV w v z k) (e : k ≤ k') : IntV w v z k' := by
  obtain ⟨neg, A, c, l, h1, h2, h3, h4, h5, h6, h7, h8⟩ := h
  exact ⟨neg, A, c, l, h1, h2, h3, h4, h5, h6, by omega, h8⟩
theorem IntV.zero (w : World) (k : Nat) : IntV w (.agg #[.bool false, .slice none 0 0]) 0 k :=
  ⟨false, none, 0, [], rfl, by simp, RdU.nil _ _, by intro a h; simp at h, by simp [Can], rfl, by simp, fun _ => rfl⟩
end Go.Proofs.YtobnpabndpmabaaGreat
namespace Go.Proofs.YtobnpabndpmabaaGreat
open Go.RowKit
theorem isNaN_any (a : Int) (w : World) :
    Calls Tryz.prog 113 #[.int .i64 a] w fun e w' => e = .returned (.bool false) ∧ w = w' := by
  go_enter Tryz.func113, Tryz.ntmps113
  go_wp2
  go_ret
  exact ⟨by simp, rfl⟩
def cmpI (a b : Int) : Int := if a < b then -1 else if b < a then 1 else 0
set_option maxHeartbeats 400000 in
theorem cmpCompare_any (a b : Int) (w : World) :
    Calls Tryz.prog 70 #[.int .i64 a, .int .i64 b] w fun e w' => e = .returned (.int .i64 (cmpI a b)) ∧ w = w' := by
  go_enter Tryz.func70, Tryz.ntmps70
  go_wp2_with (go_at_call 113; refine (isNaN_any _ _).mono ?_; rintro e w' ⟨rfl, rfl⟩)
  all_goals
    go_ret
    exact ⟨ret_int (by unfold cmpI; (repeat' split) <;> omega), rfl⟩
def cmpL : List Int → List Int → Int
  | [], [] => 0
  | [], _ :: _ => -1
  | _ :: _, [] => 1
  | a :: x, b :: y => if a < b then -1 else if b < a then 1 else cmpL x y
theorem cmpL_drop {x y : List Int} {k : Nat} {a b : Int} (ha : x[k]? = some a) (hb : y[k]? = some b) :
    cmpL (x.drop k) (y.drop k) = if a < b then -1 else if b < a then 1 else cmpL (x.drop (k + 1)) (y.drop (k + 1)) := by
  obtain ⟨h1, rfl⟩ := List.getElem?_eq_some_iff.1 ha
  obtain ⟨h2, rfl⟩ := List.getElem?_eq_some_iff.1 hb
  rw [List.drop_eq_getElem_cons h1, List.drop_eq_getElem_cons h2]
  rfl
theorem cmpL_left {x y : List Int} {k : Nat} (h1 : k ≥ x.length) (h2 : k < y.length) : cmpL (x.drop k) (y.drop k) = -1 := by
  rw [List.drop_of_length_le h1, List.drop_eq_getElem_cons h2]; rfl
theorem cmpL_right {x y : List Int} {k : Nat} (h1 : k < x.length) (h2 : k ≥ y.length) : cmpL (x.drop k) (y.drop k) = 1 := by
  rw [List.drop_of_length_le h2, List.drop_eq_getElem_cons h1]; rfl
theorem cmpL_both {x y : List Int} {k : Nat} (h1 : k ≥ x.length) (h2 : k ≥ y.length) : cmpL (x.drop k) (y.drop k) = 0 := by
  rw [List.drop_of_length_le h1, List.drop_of_length_le h2]; rfl
theorem cmpI_ne {a b : Int} {r : Int} (h : (cmpI a b != 0) = true) : cmpI a b = if a < b then -1 else if b < a then 1 else r := by
  unfold cmpI at *; (repeat' split) <;> simp_all
theorem cmpI_eq {a b : Int} {r : Int} (h : (cmpI a b != 0) = false) : (if a < b then -1 else if b < a then 1 else r) = r := by
  unfold cmpI at *; (repeat' split) <;> simp_all
theorem ne_lt {a b : Int} {r : Int} (h : (a != b) = true) (h' : a < b) : -1 = if a < b then -1 else if b < a then 1 else r := by simp [h']
theorem ne_gt {a b : Int} {r : Int} (h : (a != b) = true) (h' : ¬ a < b) : 1 = if a < b then -1 else if b < a then 1 else r := by
  have : a ≠ b := by simpa using h
  rw [if_neg h', if_pos (by omega)]
theorem eq_next {a b : Int} {r : Int} (h : (a != b) = false) : (if a < b then -1 else if b < a then 1 else r) = r := by
  have : a = b := by simpa using h
  rw [if_neg (by omega), if_neg (by omega)]
set_option maxHeartbeats 400000 in
theorem slicesCompare_any (A B : Option Addr) (c d : Nat) (x y : List Int) (w : World) (hx : RdI .i64 w A x) (hy : RdI .i64 w B y) (lx : x.length ≤ 9223372036854775807) (ly : y.length ≤ 9223372036854775807) :
    Calls Tryz.prog 114 #[.slice A x.length c, .slice B y.length d] w fun e w' => e = .returned (.int .i64 (cmpL x y)) ∧ w = w' := by
  have HX := Lib.hid hx
  have HY := Lib.hid hy
  clear hx hy
  go_enter Tryz.func114, Tryz.ntmps114
  go_wp2_with fail
  go_loop [11, 5, 6, 7, 8] (fun i _ _ _ _ => ∃ k : Nat, k ≤ x.length ∧ i = .int .i64 k ∧ Hid (cmpL (x.drop k) (y.drop k) = cmpL x y)) (fun i _ _ _ _ => x.length - (intOf i).toNat)
  case atStart => exact ⟨0, Nat.zero_le _, rfl, Lib.hid rfl⟩
  case round =>
    obtain ⟨k, hk, rfl, HR⟩ := hrel
    by_cases hlt : k < x.length
    · obtain ⟨a, ha⟩ := getElem?_of_lt hlt
      obtain ⟨b, off, rfl, hc⟩ := HX.out.at_ ha
      have HA := Lib.hid ha
      clear ha
      by_cases hly : k < y.length
      · obtain ⟨a', ha'⟩ := getElem?_of_lt hly
        obtain ⟨b', off', rfl, hc'⟩ := HY.out.at_ ha'
        have HA' := Lib.hid ha'
        clear ha'
        have hD := Lib.hid (cmpL_drop HA.out HA'.out)
        go_wp2_with (go_at_call 70; refine (cmpCompare_any _ _ _).mono ?_; rintro e w' ⟨rfl, rfl⟩)
        · go_ret
          have hne : (cmpI a a' != 0) = true := by assumption
          exact ⟨ret_int (by rw [← HR.out, hD.out]; exact cmpI_ne hne), rfl⟩
        · go_round
          case rel =>
            have he : (cmpI a a' != 0) = false := by assumption
            exact ⟨k + 1, by omega, by go_num, Lib.hid (by rw [← HR.out, hD.out]; exact (cmpI_eq he).symm)⟩
          case measure => simp [intOf]; omega
      · go_wp2_with fail
        go_ret
        exact ⟨ret_int (by rw [← HR.out, cmpL_right hlt (by omega)]), rfl⟩
    · have hk' : k = x.length := by omega
      subst hk'
      go_wp2_with fail
      all_goals
        go_ret
        exact ⟨ret_int (by rw [← HR.out]; first | rw [cmpL_left (by omega) (by omega)] | rw [cmpL_both (by omega) (by omega)]), rfl⟩
theorem refCompare_any (A B : Option Addr) (c d : Nat) (x y : List Int) (w : World) (hx : RdI .i64 w A x) (hy : RdI .i64 w B y) (lx : x.length ≤ 9223372036854775807) (ly : y.length ≤ 9223372036854775807) :
    Calls Tryz.prog 16 #[.slice A x.length c, .slice B y.length d] w fun e w' => e = .returned (.int .i64 (cmpL x y)) ∧ ∃ n, w' = w.drewN n := by
  have HX := Lib.hid hx
  have HY := Lib.hid hy
  clear hx hy
  go_enter Tryz.func16, Tryz.ntmps16
  go_wp2_with fail
  go_loopw [5] (fun i wr => ∃ k n : Nat, k ≤ x.length ∧ k ≤ y.length ∧ i = .int .i64 k ∧ wr = w.drewN n ∧ Hid (cmpL (x.drop k) (y.drop k) = cmpL x y)) (fun i _ => x.length - (intOf i).toNat)
  case atStart => exact ⟨0, 0, Nat.zero_le _, Nat.zero_le _, rfl, rfl, Lib.hid rfl⟩
  case round =>
    obtain ⟨k, n, hk, hky, rfl, rfl, HR⟩ := hrel
    by_cases hlt : k < x.length
    · obtain ⟨a, ha⟩ := getElem?_of_lt hlt
      obtain ⟨b, off, rfl, hc⟩ := HX.out.at_ ha
      have HA := Lib.hid ha
      clear ha
      by_cases hly : k < y.length
      · obtain ⟨a', ha'⟩ := getElem?_of_lt hly
        obtain ⟨b', off', rfl, hc'⟩ := HY.out.at_ ha'
        have HA' := Lib.hid ha'
        clear ha'
        have hD := Lib.hid (cmpL_drop HA.out HA'.out)
        go_wp2_with fail
        go_quiet (fail)
        go_wp2_with fail
        · go_quiet (fail)
          have hne : (a != a') = true := by assumption
          go_wp2_with fail
          all_goals
            go_ret
            exact ⟨ret_int (by rw [← HR.out, hD.out]; first | exact ne_lt hne (by omega) | exact ne_gt hne (by omega)), _, by rw [World.drewN_drewN, World.drewN_drewN]⟩
        · have he : (a != a') = false := by assumption
          go_roundw
          case rel => exact ⟨k + 1, _, by omega, by omega, by go_num, rfl, Lib.hid (by rw [← HR.out, hD.out]; exact (eq_next he).symm)⟩
          case measure => simp [intOf]; omega
      · go_wp2_with fail
        all_goals
          go_ret
          exact ⟨ret_int (by rw [← HR.out, cmpL_right hlt (by omega)]), _, rfl⟩
    · by_cases hly : k < y.length
      · go_wp2_with fail
        all_goals
          go_ret
          exact ⟨ret_int (by rw [← HR.out, cmpL_left (by omega) (by omega)]), _, rfl⟩
      · go_wp2_with fail
        all_goals
          go_ret
          exact ⟨ret_int (by rw [← HR.out, cmpL_both (by omega) (by omega)]), _, rfl⟩
theorem vecCompare_any (A B : Option Addr) (c d : Nat) (x y : List Int) (w : World) (hx : RdI .i64 w A x) (hy : RdI .i64 w B y) (lx : x.length ≤ 9223372036854775807) (ly : y.length ≤ 9223372036854775807) :
    Calls Tryz.prog 71 #[.slice A x.length c, .slice B y.length d] w fun e w' => e = .returned (.int .i64 (cmpL x y)) ∧ w = w' := by
  go_enter Tryz.func71, Tryz.ntmps71
  go_wp2_with (go_at_call 114; refine (slicesCompare_any A B c d x y _ hx hy lx ly).mono ?_; rintro e w' ⟨rfl, rfl⟩)
  go_ret
  exact ⟨rfl, rfl⟩
end Go.Proofs.YtobnpabndpmabaaGreat
namespace Go.Proofs.YtobnpabndpmabaaGreat
open Go.RowKit
def orL : List Int → Int
  | [] => 0
  | a :: l => if a != 0 then a else orL l
theorem orL_drop {x : List Int} {k : Nat} {a : Int} (h : x[k]? = some a) : orL (x.drop k) = if a != 0 then a else orL (x.drop (k + 1)) := by
  obtain ⟨h1, rfl⟩ := List.getElem?_eq_some_iff.1 h
  rw [List.drop_eq_getElem_cons h1]
  rfl
set_option maxHeartbeats 400000 in
theorem cmpOr_any (A : Option Addr) (c : Nat) (x : List Int) (w : World) (hx : RdI .i64 w A x) (lx : x.length ≤ 9223372036854775807) :
    Calls Tryz.prog 69 #[.slice A x.length c] w fun e w' => e = .returned (.int .i64 (orL x)) ∧ w = w' := by
  have HX := Lib.hid hx
  clear hx
  go_enter Tryz.func69, Tryz.ntmps69
  go_wp2_with fail
  go_loop [8, 5] (fun i _ => ∃ k : Nat, k ≤ x.length ∧ i = .int .i64 k ∧ Hid (orL (x.drop k) = orL x)) (fun i _ => x.length - (intOf i).toNat)
  case atStart => exact ⟨0, Nat.zero_le _, rfl, Lib.hid rfl⟩
  case round =>
    obtain ⟨k, hk, rfl, HR⟩ := hrel
    by_cases hlt : k < x.length
    · obtain ⟨a, ha⟩ := getElem?_of_lt hlt
      obtain ⟨b, off, rfl, hc⟩ := HX.out.at_ ha
      have HA := Lib.hid (orL_drop ha)
      clear ha
      by_cases h0 : (a != 0) = true
      · go_wp2_with fail
        go_ret
        exact ⟨ret_int (by rw [← HR.out, HA.out, if_pos h0]), rfl⟩
      · have h0' : (a != 0) = false := by simpa using h0
        have H0 := Lib.hid h0'
        clear h0
        go_wp2_with fail
        go_round
        case rel => exact ⟨k + 1, by omega, by go_num, Lib.hid (by rw [← HR.out, HA.out, if_neg (by rw [H0.out]; simp)])⟩
        case measure => simp [intOf]; omega
    · go_wp2_with fail
      go_ret
      exact ⟨ret_int (by rw [← HR.out, List.drop_of_length_le (by omega)]; rfl), rfl⟩
theorem cmpCompare_same (a b : Int) (w : World) :
    Calls Tryz.prog 70 #[.int .i64 a, .int .i64 b] w fun e w' => e = .returned (.int .i64 (cmpI a b)) ∧ w' = w :=
  (cmpCompare_any a b w).mono fun _ _ ⟨h1, h2⟩ => ⟨h1, h2.symm⟩
theorem vecCompare_same (A B : Option Addr) (c d : Nat) (x y : List Int) (w : World) (hx : RdI .i64 w A x) (hy : RdI .i64 w B y) (lx : x.length ≤ 9223372036854775807) (ly : y.length ≤ 9223372036854775807) :
    Calls Tryz.prog 71 #[.slice A x.length c, .slice B y.length d] w fun e w' => e = .returned (.int .i64 (cmpL x y)) ∧ w' = w :=
  (vecCompare_any A B c d x y w hx hy lx ly).mono fun _ _ ⟨h1, h2⟩ => ⟨h1, h2.symm⟩
def cmpN (k1 : Int) (x : List Int) (k2 : Int) (y : List Int) : Int := orL [cmpI k1 k2, cmpL x y]
theorem region_still_tail {P : Program} {id : Nat} {Q : Exit → Act → World → Prop} {a : Act} {w : World} {l : List Oper} (n : Nat) (hm : P.follows .mixedOrders = true) (hB : Region.lexTailB .any l.toArray n = true)
    (h : wpStill P l.toArray w.drew (fun a' => wpList P l.toArray Q (l.drop n) a' w.drew) (l.take n) a) : (Code.region id l.toArray true).wp P Q a w := wp_region_still_tail n hm hB h
theorem grow_alloc (w : World) (os : Array Obj) (o : Obj) : (Sort.grow w os).alloc o = Sort.grow w (os.push o) := by
  unfold Sort.grow World.alloc; simp
theorem grow_two (w : World) (a b : Obj) : ((w.alloc a).alloc b).drew = Sort.grow (w.drewN 1) #[a, b] := by
  unfold Sort.grow
  rw [show (w.drewN 1).heap ++ #[a, b] = (w.heap.push a).push b from by
    show w.heap ++ #[a, b] = _
    apply Array.ext'
    simp]
  rfl
theorem two_boxes (w : World) (a b c d : Value) (t : TypeId) :
    ((w.alloc (.cells #[a, b] t)).alloc (.cells #[c, d] t)).drew.cell? ⟨w.heap.size, 0, none⟩ = some a ∧ ((w.alloc (.cells #[a, b] t)).alloc (.cells #[c, d] t)).drew.cell? ⟨w.heap.size, 1, none⟩ = some b ∧
    ((w.alloc (.cells #[a, b] t)).alloc (.cells #[c, d] t)).drew.cell? ⟨w.heap.size + 1, 0, none⟩ = some c ∧ ((w.alloc (.cells #[a, b] t)).alloc (.cells #[c, d] t)).drew.cell? ⟨w.heap.size + 1, 1, none⟩ = some d ∧
    Ext w ((w.alloc (.cells #[a, b] t)).alloc (.cells #[c, d] t)).drew ∧ ∃ os, ((w.alloc (.cells #[a, b] t)).alloc (.cells #[c, d] t)).drew = Sort.grow (w.drewN 1) os :=
  ⟨by go_simp, by go_simp, by go_simp, by go_simp, (((Ext.refl _).alloc _).alloc _).drew, _, grow_two w _ _⟩
set_option maxRecDepth 100000 in
set_option maxHeartbeats 1000000 in
theorem compareByNorm_any (k1 k2 : Int) (A B : Option Addr) (c d : Nat) (x y : List Int) (w : World) (hx : RdI .i64 w A x) (hy : RdI .i64 w B y) (lx : x.length ≤ 9223372036854775807) (ly : y.length ≤ 9223372036854775807) :
    Calls Tryz.prog 32 #[.agg #[.int .i64 k1, .slice A x.length c], .agg #[.int .i64 k2, .slice B y.length d]] w fun e w' =>
      e = .returned (.int .i64 (cmpN k1 x k2 y)) ∧ ∃ q os, w' = Sort.grow (w.drewN q) os := by
  have HX := Lib.hid hx
  have HY := Lib.hid hy
  clear hx hy
  go_enter Tryz.func32, Tryz.ntmps32
  go_wp2_with fail
  obtain ⟨c1, c2, c3, c4, he, hg⟩ := two_boxes w (.int .i64 k1) (.slice A x.length c) (.int .i64 k2) (.slice B y.length d) 67
  have HE := Lib.hid he
  have HG := Lib.hid hg
  clear he hg
  generalize (w.alloc (.cells #[.int .i64 k1, .slice A x.length c] 67)).alloc (.cells #[.int .i64 k2, .slice B y.length d] 67) = w2 at *
  refine region_still_tail 10 (by kernel_rfl) (by kernel_rfl) ?_
  simp only [List.take_succ_cons, List.take_zero, List.drop_succ_cons, List.drop_zero]
  generalize w2.drew = w3 at *
  iterate 4 still_step
  still_call (cmpCompare_same _ _ _)
  iterate 4 still_step
  still_call (vecCompare_same A B c d x y _ (HX.out.ext HE.out) (HY.out.ext HE.out) lx ly)
  refine wpStill_nil ?_
  have hor := cmpOr_any (some ⟨w3.heap.size, 0, none⟩) 2 [cmpI k1 k2, cmpL x y] (w3.alloc (.cells #[.int .i64 (cmpI k1 k2), .int .i64 (cmpL x y)] 3)) (fun _ => ⟨w3.heap.size, 0, rfl, fun i v hv => by
    match i, hv with
    | 0, hv => simp at hv; subst hv; go_simp
    | 1, hv => simp at hv; subst hv; go_simp⟩) (by simp)
  rw [show [cmpI k1 k2, cmpL x y].length = 2 from rfl] at hor
  have HOR := Lib.hid hor
  clear hor
  go_wp2_with fail
  refine HOR.out.mono ?_
  rintro e w' ⟨rfl, rfl⟩
  go_wp2_with fail
  go_ret
  obtain ⟨os, rfl⟩ := HG.out
  exact ⟨rfl, 1, _, grow_alloc _ _ _⟩
end Go.Proofs.YtobnpabndpmabaaGreat
namespace Go.Proofs.YtobnpabndpmabaaGreat
open Go.RowKit
def sg (z : Int) : Int := if z < 0 then -1 else if z = 0 then 0 else 1
theorem two_limbs (u : Nat) : natV [u % 4294967296, u / 4294967296] = u := by simp [natV]; omega
end Go.Proofs.YtobnpabndpmabaaGreat
namespace Go.Proofs.YtobnpabndpmabaaGreat
open Go.RowKit
def cmpU (a b : Nat) : Int := if a < b then -1 else if a = b then 0 else 1
theorem natV_split {l : List Nat} {k a : Nat} (h : l[k]? = some a) : natV l = natV (l.take k) + 4294967296 ^ k * (a + 4294967296 * natV (l.drop (k + 1))) := by
  have hk := (List.getElem?_eq_some_iff.1 h).1
  conv => lhs; rw [← List.take_append_drop k l]
  rw [natV_append, List.length_take, Nat.min_eq_left (by omega), List.drop_eq_getElem_cons hk, natV, (List.getElem?_eq_some_iff.1 h).2]
theorem lmb_take {l : List Nat} (h : Lmb l) (k : Nat) : Lmb (l.take k) := fun a ha => h a (List.mem_of_mem_take ha)
theorem natV_lt_of {l m : List Nat} {k a b : Nat} (hl : Lmb l) (ha : l[k]? = some a) (hb : m[k]? = some b) (hd : l.drop (k + 1) = m.drop (k + 1)) (hab : a < b) : natV l < natV m := by
  have hk := (List.getElem?_eq_some_iff.1 ha).1
  rw [natV_split ha, natV_split hb, hd]
  have h1 := natV_lt (lmb_take hl k)
  rw [List.length_take, Nat.min_eq_left (by omega)] at h1
  have h2 : 4294967296 ^ k * (a + 1 + 4294967296 * natV (m.drop (k + 1))) ≤ 4294967296 ^ k * (b + 4294967296 * natV (m.drop (k + 1))) := Nat.mul_le_mul_left _ (by omega)
  have e : 4294967296 ^ k * (a + 1 + 4294967296 * natV (m.drop (k + 1))) = 4294967296 ^ k + 4294967296 ^ k * (a + 4294967296 * natV (m.drop (k + 1))) := by grind
  omega
theorem natV_lt_len {l m : List Nat} (hl : Lmb l) (hm : Can m) (h : l.length < m.length) : natV l < natV m := by
  have h1 := natV_lt hl
  have h2 := can_ge hm (by intro e; rw [e] at h; simp at h)
  have h3 : 4294967296 ^ l.length ≤ 4294967296 ^ (m.length - 1) := Nat.pow_le_pow_right (by omega) (by omega)
  omega
theorem cmpU_lt {a b : Nat} (h : a < b) : cmpU a b = -1 := by simp [cmpU, h]
theorem cmpU_gt {a b : Nat} (h : b < a) : cmpU a b = 1 := by unfold cmpU; rw [if_neg (by omega), if_neg (by omega)]
theorem drop_snoc {l m : List Nat} {k a : Nat} (ha : l[k]? = some a) (hb : m[k]? = some a) (hd : l.drop (k + 1) = m.drop (k + 1)) : l.drop k = m.drop k := by
  obtain ⟨h1, rfl⟩ := List.getElem?_eq_some_iff.1 ha
  obtain ⟨h2, h3⟩ := List.getElem?_eq_some_iff.1 hb
  rw [List.drop_eq_getElem_cons h1, List.drop_eq_getElem_cons h2, hd, h3]
end Go.Proofs.YtobnpabndpmabaaGreat
namespace Go.Proofs.YtobnpabndpmabaaGreat
open Go.RowKit
theorem kc : (∀ (P : Program) (items : List (Item P)) (ow : List Nat) (s : AS) (Q : AS → Prop), runS P items ow [] (some s) Q = Q s) ∧
    (∀ (P : Program) (items : List (Item P)) (ow : List Nat) (st : Stp) (l : List Stp) (s : AS) (Q : AS → Prop), runS P items ow (st :: l) (some s) Q = runS P items ow l (stepS P items ow st s) Q) ∧
    (∀ {P : Program} {items : List (Item P)} {ow : List Nat} {i : Nat} {d : Option Tmp} {s : AS} (x : Operand), stepS P items ow ⟨i, d, .move x, none⟩ s = (s.ev x).map (s.put d)) ∧
    (∀ {P : Program} {items : List (Item P)} {ow : List Nat} {i : Nat} {d : Option Tmp} {s : AS} (x : Operand), stepS P items ow ⟨i, d, .assign x, none⟩ s = (s.ev x).map (s.put d)) ∧
    (∀ {P : Program} {items : List (Item P)} {ow : List Nat} {i : Nat} {d : Option Tmp} {s : AS} (op : BinOp) (t t' : TypeId) (x y : Operand), stepS P items ow ⟨i, d, .binOp op t x y t', none⟩ s = (effM P s.ev (.binOp op t x y t')).map (s.put d)) ∧
    (∀ {P : Program} {items : List (Item P)} {ow : List Nat} {i : Nat} {d : Option Tmp} {s : AS} (t : TypeId) (x : Operand), stepS P items ow ⟨i, d, .load t x, none⟩ s = (effR P s.ev s.H (.load t x)).map (s.put d)) ∧
    (∀ {α : Type} {a : α} {l : List α}, (a :: l)[0]? = some a) ∧
    (∀ {α : Type} {a : α} {i : Nat} {l : List α}, (a :: l)[i + 1]? = l[i]?) ∧
    (∀ {α : Type} {x : α} {xs : List α} {a : α}, (x :: xs).set 0 a = a :: xs) ∧
    (∀ {α : Type} {x : α} {xs : List α} {i : Nat} {a : α}, (x :: xs).set (i + 1) a = x :: xs.set i a) ∧
    (∀ {α β : Type} {f : α → β}, List.map f [] = []) ∧
    (∀ {α β : Type} {f : α → β} {a : α} {l : List α}, List.map f (a :: l) = f a :: List.map f l) ∧
    (∀ {α β : Type} (a : α) (f : α → β), Option.map f (some a) = some (f a)) ∧
    (∀ {α : Type} {a : α} {l : List α} {f : α → Bool}, (a :: l).all f = (f a && l.all f)) ∧
    (∀ {α : Type} {f : α → Bool}, ([] : List α).all f = true) ∧
    (∀ {α : Type} {a : α} {xs : List α}, (a :: xs).length = xs.length + 1) ∧
    (∀ {α : Type}, ([] : List α).length = 0) ∧
    (∀ n : Nat, 0 + n = n) ∧
    (∀ b : Bool, (b && b) = b) ∧
    (∀ {α : Type} {_ : Decidable True} (t e : α), (if True then t else e) = t) ∧
    (∀ {α : Type} {_ : Decidable False} (t e : α), (if False then t else e) = e) ∧
    (∀ {α : Type} (xs : List α), [] ++ xs = xs) ∧
    (∀ {α : Type} {a : α} {xs ys : List α}, a :: xs ++ ys = a :: (xs ++ ys)) ∧
    (∀ {α : Type} (xs : List α), xs ++ [] = xs) ∧
    (∀ {α β : Type} (a : α) (f : α → Option β), (some a).bind f = f a) ∧
    (∀ {α : Type}, ([] : List α).isEmpty = true) ∧
    ((!true) = false) ∧
    (∀ {α : Type} {l : List α}, List.drop 0 l = l) ∧
    (∀ {α : Type} {l : List α}, List.take 0 l = []) ∧
    (∀ {α : Type} {a : α} {l : List α} {i : Nat}, List.drop (i + 1) (a :: l) = List.drop i l) ∧
    (∀ {α : Type} {a : α} {l : List α} {i : Nat}, List.take (i + 1) (a :: l) = a :: List.take i l) ∧
    (∀ b : Bool, (b || true) = true) ∧
    (∀ p : Prop, (p ∧ p) = p) ∧
    (∀ p : Prop, (True ∧ p) = p) ∧
    (∀ b : Bool, (b && true) = b) ∧
    (∀ b : Bool, (b && false) = false) ∧
    (∀ {α : Type} [BEq α] [ReflBEq α] (a : α), (a == a) = true) ∧
    ((false = true) = False) ∧
    (∀ {α : Type} {xs : List α} {i : Nat}, xs.toArray[i]? = xs[i]?) ∧
    (∀ n : Nat, (n : Int).toNat = n) ∧
    (∀ (ops : Array Oper) (x : Nat), prepL ops [] x = []) ∧
    (∀ (ops : Array Oper) (x : Nat) (o : Oper) (l : List Oper), prepL ops (o :: l) x = prep1 ops o x :: prepL ops l (x + 1)) ∧
    (∀ (s : AS) (t : Tmp), s.ev (.tmp t) = s.tmps[t]?) ∧
    (∀ (s : AS) (v : Value), s.ev (.const v) = some (ofConst v)) ∧
    (∀ (s : AS) (g : Nat), s.ev (.global g) = some (.raw (.pointer (some ⟨g, 0, none⟩)))) ∧
    (∀ (s : AS) (f : FuncId), s.ev (.func f) = some (.raw (.func (.func f) #[] #[]))) ∧
    (∀ (s : AS) (d : Tmp) (t : TV), s.put (some d) t = { s with tmps := s.tmps.set d t }) ∧
    (∀ (s : AS) (t : TV), s.put none t = s) :=
  ⟨@runS_nil, @runS_cons, @opS_move, @opS_assign, @opS_bin, @opS_load, @List.getElem?_cons_zero, @List.getElem?_cons_succ, @List.set_cons_zero, @List.set_cons_succ, @List.map_nil, @List.map_cons, @Option.map_some, @List.all_cons, @List.all_nil, @List.length_cons, @List.length_nil, @Nat.zero_add, @Bool.and_self, @if_true, @if_false, @List.nil_append, @List.cons_append, @List.append_nil, @Option.bind_some, @List.isEmpty_nil, @Bool.not_true, @List.drop_zero, @List.take_zero, @List.drop_succ_cons, @List.take_succ_cons, @Bool.or_true, @and_self, @true_and, @Bool.and_true, @Bool.and_false, @beq_self_eq_true, @Bool.false_eq_true, @List.getElem?_toArray, @Int.toNat_natCast, by intros; rfl, by intros; rfl, by intros; rfl, by intros; rfl, by intros; rfl, by intros; rfl, by intros; rfl, by intros; rfl⟩
abbrev jk : TV := .one .junk
end Go.Proofs.YtobnpabndpmabaaGreat
namespace Go.Proofs.YtobnpabndpmabaaGreat
open Go.RowKit
abbrev slU (l : List Nat) : TV := .one (.p (.sl (ls fU l)))
set_option maxRecDepth 100000 in
set_option maxHeartbeats 1000000 in
theorem trim_C (l : List Nat) (hb : l.length ≤ 1073741824) : CallC Tryz.prog 135 [slU l] ⟨[], slU (trimL l)⟩ := by
  refine callC_of Tryz.func135 rfl (by kernel_rfl) ?_; rw [Tryz.ntmps135]
  (refine WpA_sreg [] [] (by simp) fun K hK => ?_; simp (disch := omega) only [kc, prep1, List.replicate, ofConst, Value.oneCell']; (with_reducible refine hK _ ?_))
  (refine WpA_sreg [] [] (by simp) fun K hK => ?_; simp (disch := omega) only [kc, prep1, Nat.reduceAdd, opS_len, effR, ty_slice77, ls_len]; (with_reducible refine hK _ ?_))
  refine WpA_for (G := {n : Nat // n ≤ l.length ∧ trimL l = trimL (l.take n)}) (fun n => ⟨[slU l, jk, .raw (.slice none 0 0), .raw (.int .i64 n.1), jk, jk, jk, jk, jk, jk, jk, jk, jk, jk, jk, jk, jk, jk, jk, jk, jk, jk], Hm []⟩) (fun n => n.1) ⟨l.length, Nat.le_refl _, by simp⟩ ?_ ?_
  · refine Weak_sub trivial ?_
    simp [wkL, okTV, okAV]
  · rintro ⟨n, hn, hT⟩
    simp only
    by_cases h0 : 0 < n
    · obtain ⟨a, ha⟩ := getElem?_of_lt (l := l) (k := n - 1) (by omega)
      have e1 : ((n : Int) - 1).toNat = n - 1 := by omega
      (refine WpA_seq (WpA_sreg [] [] (by simp) fun K hK => ?_); simp (disch := omega) only [kc, prep1, Nat.reduceAdd, Hm, effM, ofConst, Value.oneCell', evBin, decT, stS_guard, ifT, wrapI, opS_indexAddr, effR, natOf_pos, e1, ty_slice77, ls_get, ha, fU, ty_sz154, packT, ty_agg154, opS_pick]; (with_reducible refine hK _ ?_))
      have htk : l.take n = l.take (n - 1) ++ [a] := by
        have := List.take_succ_eq_append_getElem (i := n - 1) (l := l) (by omega)
        rw [show n - 1 + 1 = n by omega] at this
        rw [this, (List.getElem?_eq_some_iff.1 ha).2]
      refine WpA_cond rfl (fun hz => WpA_skip ?_) (fun hz => WpA_exit ?_)
      · have hz' : a = 0 := by simpa using hz
        refine WpA_block ?_
        ((refine WpA_lreg [] [] (by simp) fun K hK => ?_); simp (disch := omega) only [kc, prep1, Nat.reduceAdd, decT, effM, ofConst, Value.oneCell', evBin, wrapI]; (with_reducible refine hK _ ?_))
        refine ⟨⟨n - 1, by omega, ?_⟩, by simp only; omega, Weak_sub trivial ?_⟩
        · rw [hT, htk, hz', trim_snoc_zero]
        · have e : ((n - 1 : Nat) : Int) = (n : Int) - 1 := by omega
          simp [wkL, okTV, okAV, e]
      · have hz' : a ≠ 0 := by intro e; simp [e] at hz
        have hfin : trimL l = l.take n := by rw [hT, htk, trim_snoc hz']
        show WpA _ _ _ _
        have hlen : (l.take n).length = n := by simp; omega
        (refine WpA_sreg [] [] (by simp) fun K hK => ?_; simp (disch := omega) only [kc, prep1, Nat.reduceAdd, decF, opS_slice, effR, ty_slice77, bound, natOf_pos, ty_sz154, Nat.zero_le, ls_len, ls_all fU_len, and_true, ls_take, ifT, opS_append, appS, effD, ofConst, Value.oneCell', newsOf, ls_own, newS, effA, ty_zero154, ty_by154, lc_len, hlen, lc_all fU_len]; (with_reducible refine hK _ ?_))
        refine WpA_ret ⟨.inr rfl, ret_fz 21 (fzOk_one rfl) ?_ rfl⟩
        simp (disch := omega) only [kc, resA, Tryz.results135, resOne, fzTV, fzAV, updH, ifT, lc_take, lc_cellF, hfin]
        simp [List.take_take]
    · have hn0 : n = 0 := by omega
      subst hn0
      have hfin : trimL l = [] := by rw [hT]; simp [trimL]
      (refine WpA_seq (WpA_sreg [] [] (by simp) fun K hK => ?_); simp (disch := omega) only [kc, prep1, Nat.reduceAdd, Hm, effM, ofConst, Value.oneCell', evBin, decF, stS_guard, Option.map_none, opS_indexAddr, effR, opS_pick]; (with_reducible refine hK _ ?_))
      refine WpA_cond rfl (fun hz => by cases hz) (fun hz => WpA_exit ?_)
      show WpA _ _ _ _
      (refine WpA_sreg [] [] (by simp) fun K hK => ?_; simp (disch := omega) only [kc, prep1, Nat.reduceAdd, opS_slice, effR, ty_slice77, bound, natOf_pos, ty_sz154, Nat.le_refl, ls_len, Nat.zero_le, ls_all fU_len, opS_append, appS, effD, ofConst, Value.oneCell', newsOf, newS, effA, ty_zero154, ty_by154, Nat.reduceMul, allnil, and_true, ifT]; (with_reducible refine hK _ ?_))
      refine WpA_ret ⟨.inr rfl, ret_fz 21 (fzOk_one (f := fU) (l := []) rfl) ?_ rfl⟩
      simp (disch := omega) only [kc, resA, Tryz.results135, resOne, fzTV, fzAV, updH, ifT, Nat.add_zero, hfin]
      simp [ls]
end Go.Proofs.YtobnpabndpmabaaGreat
namespace Go.Proofs.YtobnpabndpmabaaGreat
open Go.RowKit
def liveAV (H : OH) : AV → Prop
  | .sl a _ _ _ => H a ≠ []
  | .ptr a _ _ _ => H a ≠ []
  | _ => True
def liveTV (H : OH) : TV → Prop
  | .one x => liveAV H x
  | .agg cs => ∀ x ∈ cs, liveAV H x
  | .fn _ cs => ∀ x ∈ cs, liveAV H x
  | .tup ts => ∀ t ∈ ts, ∀ x ∈ t.2, liveAV H x
def Live (s : AS) : Prop := (∀ (t : Nat) x, s.tmps[t]? = some x → liveTV s.H x) ∧ ∀ a, ∀ o ∈ s.H a, selfO a o
section
variable {P : Program} {s s' : AS} {H : OH}
theorem live_of_rel {w0 w : World} {O X : Nat → Prop} {a : Act} (h : Rel w0 O X s a w) : Live s := by
  obtain ⟨_, _, ρ, hinv, htm⟩ := h
  have av : ∀ x v, AV.rel ρ s.H (Xo X ρ s.H) w x v → liveAV s.H x := fun x v hx => by
    cases x with
    | p x => trivial
    | sl a r off len => obtain ⟨o, h1, _⟩ := hx; intro h0; rw [h0] at h1; simp at h1
    | ptr a r i j => obtain ⟨o, _, _, h1, _⟩ := hx; intro h0; rw [h0] at h1; simp at h1
    | junk => trivial
  have agg : ∀ cs v, aggRel ρ s.H (Xo X ρ s.H) w cs v → ∀ x ∈ cs, liveAV s.H x := fun cs v hc x hx => by
    obtain ⟨vs, _, _, h3⟩ := hc
    obtain ⟨k, hk, rfl⟩ := List.getElem_of_mem hx
    obtain ⟨u, _, _, h4⟩ := h3 k _ (List.getElem?_eq_getElem hk)
    exact av _ _ h4
  refine ⟨fun t x hx => ?_, fun a o ho => ?_⟩
  · obtain ⟨v, _, hv⟩ := htm t x hx
    cases x with
    | one x => exact av x v hv
    | agg cs => exact agg cs v hv
    | fn f cs => obtain ⟨u, h1, h2⟩ := hv; exact agg cs u h1
    | tup ts =>
      obtain ⟨vs, _, _, h3⟩ := hv
      intro t ht x hx
      obtain ⟨k, hk, rfl⟩ := List.getElem_of_mem ht
      obtain ⟨u, _, h4⟩ := h3 k _ _ (List.getElem?_eq_getElem hk)
      rcases h4 with ⟨_, h4⟩ | ⟨_, y, h5, h4⟩
      · exact agg _ _ h4 x hx
      · have h5 : ts[k].2 = [y] := h5
        rw [h5] at hx; simp at hx; subst hx; exact av _ _ h4
  · obtain ⟨k, hk, rfl⟩ := List.getElem_of_mem ho
    exact hinv.self a k _ (List.getElem?_eq_getElem hk)
theorem ev_live (h : Live s) {x : Operand} {t : TV} (hx : s.ev x = some t) : liveTV s.H t := by
  cases x with
  | tmp k => exact h.1 k t hx
  | const v =>
    simp only [AS.ev] at hx
    injection hx with hx
    subst hx
    unfold ofConst
    split
    · split
      · intro y hy; simp only [List.mem_map] at hy; obtain ⟨u, _, rfl⟩ := hy; trivial
      · trivial
    · split <;> trivial
  | global g => simp only [AS.ev] at hx; injection hx with hx; subst hx; trivial
  | func f => simp only [AS.ev] at hx; injection hx with hx; subst hx; trivial
theorem put_live (h : Live s) {d : Option Tmp} {t : TV} (ht : liveTV s.H t) : Live (s.put d t) := by
  refine ⟨fun k x hx => ?_, by rw [put_H]; exact h.2⟩
  rw [put_H]
  cases d with
  | none => exact h.1 k x hx
  | some d =>
    simp only [AS.put] at hx
    by_cases hk : d = k
    · subst hk
      rw [List.getElem?_set] at hx
      simp at hx
      obtain ⟨_, rfl⟩ := hx
      exact ht
    · rw [List.getElem?_set_ne hk] at hx; exact h.1 k x hx
theorem effM_live (h : Live s) {op : Op} {t : TV} (ht : effM P s.ev op = some t) : liveTV s.H t := by
  cases op <;> simp only [effM] at ht <;> try cases ht
  case move x => exact ev_live h ht
  case assign x => exact ev_live h ht
  case pick c a b =>
    split at ht
    · exact ev_live h ht
    · exact ev_live h ht
    · cases ht
  case binOp op ty x y yt =>
    split at ht
    · obtain ⟨v, _, rfl⟩ := Option.map_eq_some_iff.1 ht; trivial
    · cases ht
  case unOp op ty x =>
    split at ht
    · obtain ⟨v, _, rfl⟩ := Option.map_eq_some_iff.1 ht; trivial
    · cases ht
  case convert a b x =>
    split at ht
    · injection ht with ht; subst ht; trivial
    · cases ht
  case extract x k =>
    split at ht
    · rename_i ts hx
      have hl := ev_live h hx
      split at ht
      · rename_i cs hk
        injection ht with ht
        subst ht
        exact hl _ (List.mem_of_getElem? hk)
      · rename_i y hk
        injection ht with ht
        subst ht
        exact hl _ (List.mem_of_getElem? hk) y (by simp)
      · cases ht
    · cases ht
theorem pack_live {t : TypeId} {cs : List AV} {T : TV} (h : packT P t cs = some T) (hc : ∀ x ∈ cs, liveAV H x) : liveTV H T := by
  unfold packT at h
  split at h
  · split at h
    · injection h with h; subst h; exact fun x hx => hc x (List.mem_of_mem_take hx)
    · cases h
  · split at h
    · injection h with h; subst h; exact hc _ (by simp)
    · cases h
  · cases h
theorem cellsOf_live {t : TV} {cs : List AV} (h : cellsOf t = some cs) (ht : liveTV H t) : ∀ x ∈ cs, liveAV H x := by
  unfold cellsOf at h
  split at h
  · injection h with h; subst h; intro x hx; simp at hx; subst hx; trivial
  · injection h with h; subst h; exact ht
  · cases h
theorem fill_live (h : Live s) {pl : List (Nat × Nat)} : ∀ (parts : List (Nat × Operand)) (cs cs' : List AV), fillA pl s.ev cs parts = some cs' → (∀ x ∈ cs, liveAV s.H x) → ∀ x ∈ cs', liveAV s.H x
  | [], cs, cs', hf, hc => by simp only [fillA] at hf; injection hf with hf; subst hf; exact hc
  | (f, x) :: rest, cs, cs', hf, hc => by
    simp only [fillA] at hf
    split at hf
    · rename_i off n ys hp hx
      obtain ⟨t, ht, hys⟩ := Option.bind_eq_some_iff.1 hx
      split at hf
      · refine fill_live h rest _ cs' hf fun y hy => ?_
        simp only [List.mem_append] at hy
        rcases hy with (hy | hy) | hy
        · exact hc y (List.mem_of_mem_take hy)
        · exact cellsOf_live hys (ev_live h ht) y hy
        · exact hc y (List.mem_of_mem_drop hy)
      · cases hf
    · cases hf
theorem self_live (h : Live s) {a r i : Nat} {o : OObj} {e : List AV} (ho : (s.H a)[r]? = some o) (he : o.elems[i]? = some e) : ∀ x ∈ e, liveAV s.H x := fun x hx => by
  have hs := h.2 a o (List.mem_of_getElem? ho) e (List.mem_of_getElem? he) x hx
  have hne : s.H a ≠ [] := by intro h0; rw [h0] at ho; simp at ho
  cases x with
  | sl b _ _ _ => have hs : b = a := hs; subst hs; exact hne
  | ptr b _ _ _ => have hs : b = a := hs; subst hs; exact hne
  | p x => trivial
  | junk => trivial
theorem effR_live (h : Live s) {op : Op} {t : TV} (ht : effR P s.ev s.H op = some t) : liveTV s.H t := by
  cases op
  case load ty x =>
    simp only [effR] at ht
    split at ht
    · exact pack_live ht (fun y hy => by simp only [List.mem_map] at hy; obtain ⟨z, _, rfl⟩ := hy; trivial)
    · split at ht
      · rename_i o ho
        split at ht
        · rename_i e he
          exact pack_live ht (fun y hy => self_live h ho he y (List.mem_of_mem_drop hy))
        · cases ht
      · cases ht
    · cases ht
  case indexAddr ty x ix =>
    simp only [effR] at ht
    split at ht
    · split at ht
      · cases ht
      · split at ht
        · split at ht
          · split at ht
            · injection ht with ht; subst ht; trivial
            · cases ht
          · cases ht
        · rename_i e a r off len hs hx
          split at ht
          · split at ht
            · injection ht with ht; subst ht; have q := ev_live h hx; exact q
            · cases ht
          · cases ht
        · cases ht
    · cases ht
  case fieldAddr ty x f =>
    simp only [effR] at ht
    split at ht
    · split at ht
      · injection ht with ht; subst ht; trivial
      · cases ht
    · rename_i hx
      split at ht
      · injection ht with ht; subst ht; have q := ev_live h hx; exact q
      · cases ht
    · cases ht
  case field ty x f =>
    simp only [effR] at ht
    split at ht
    · rename_i hx
      exact pack_live ht (fun y hy => ev_live h hx y (List.mem_of_mem_drop hy))
    · cases ht
  case slice ty x lo hi mx =>
    cases mx with
    | some _ => simp only [effR] at ht; cases ht
    | none =>
      simp only [effR] at ht
      split at ht
      · split at ht
        · split at ht
          · injection ht with ht; subst ht; trivial
          · cases ht
        · cases ht
      · rename_i hx
        split at ht
        · split at ht
          · injection ht with ht; subst ht; have q := ev_live h hx; exact q
          · split at ht
            · injection ht with ht; subst ht; trivial
            · cases ht
        · cases ht
      · cases ht
  case build ty parts =>
    simp only [effR] at ht
    split at ht
    · split at ht
      · obtain ⟨cs, hcs, rfl⟩ := Option.map_eq_some_iff.1 ht
        exact fill_live h _ _ _ hcs (fun y hy => by simp only [List.mem_map] at hy; obtain ⟨z, _, rfl⟩ := hy; trivial)
      · cases ht
    · cases ht
  case nilCheck x =>
    simp only [effR] at ht
    split at ht
    · injection ht with ht; subst ht; trivial
    · rename_i hx; injection ht with ht; subst ht; have q := ev_live h hx; exact q
    · cases ht
  case makeFunc fn first captured =>
    cases fn with
    | func f =>
      simp only [effR] at ht
      split at ht
      · obtain ⟨cs, hcs, rfl⟩ := Option.map_eq_some_iff.1 ht
        obtain ⟨ts, hts, hc⟩ := Option.bind_eq_some_iff.1 hcs
        intro x hx
        obtain ⟨j, hj, rfl⟩ := List.getElem_of_mem hx
        obtain ⟨h1, h2⟩ := (capsA_spec hc).2 j _ (List.getElem?_eq_getElem hj)
        obtain ⟨y, y1, y2⟩ := (evAll_spec hts).2 j _ h1
        have q := ev_live h y2
        exact q
      · cases ht
    | _ => simp only [effR] at ht; cases ht
  case call c =>
    obtain ⟨callee, args, argTypes⟩ := c
    cases callee with
    | builtin b =>
      cases b
      case len =>
        simp only [effR] at ht
        split at ht
        · split at ht
          · injection ht with ht; subst ht; trivial
          · injection ht with ht; subst ht; trivial
          · injection ht with ht; subst ht; trivial
          · cases ht
        · cases ht
      all_goals (simp only [effR] at ht; cases ht)
    | value f => simp only [effR] at ht; cases ht
    | invoke r m => simp only [effR] at ht; cases ht
  all_goals (simp only [effR] at ht; cases ht)
end
end Go.Proofs.YtobnpabndpmabaaGreat
namespace Go.Proofs.YtobnpabndpmabaaGreat
open Go.RowKit
section
variable {P : Program} {s s' : AS} {H H' : OH}
def Grows (H H' : OH) : Prop := ∀ a, H a ≠ [] → H' a = H a
def sameAV (H H' : OH) : AV → Prop
  | .sl a _ _ _ => H' a = H a
  | .ptr a _ _ _ => H' a = H a
  | _ => True
def sameTV (H H' : OH) : TV → Prop
  | .one x => sameAV H H' x
  | .agg cs => ∀ x ∈ cs, sameAV H H' x
  | .fn _ cs => ∀ x ∈ cs, sameAV H H' x
  | .tup ts => ∀ t ∈ ts, ∀ x ∈ t.2, sameAV H H' x
theorem sameAV_live {x : AV} (h : liveAV H x) (g : Grows H H') : sameAV H H' x := by
  cases x with
  | sl a _ _ _ => exact g a h
  | ptr a _ _ _ => exact g a h
  | p x => trivial
  | junk => trivial
theorem sameTV_live {t : TV} (h : liveTV H t) (g : Grows H H') : sameTV H H' t := by
  cases t with
  | one x => exact sameAV_live h g
  | agg cs => exact fun x hx => sameAV_live (h x hx) g
  | fn f cs => exact fun x hx => sameAV_live (h x hx) g
  | tup ts => exact fun t ht x hx => sameAV_live (h t ht x hx) g
theorem sameAV_refl (x : AV) : sameAV H H x := by cases x <;> first | rfl | trivial
theorem sameTV_refl (t : TV) : sameTV H H t := by
  cases t with
  | one x => exact sameAV_refl x
  | agg cs => exact fun x _ => sameAV_refl x
  | fn f cs => exact fun x _ => sameAV_refl x
  | tup ts => exact fun t _ x _ => sameAV_refl x
theorem effM_congr {ev ev' : Operand → Option TV} {op : Op} (h : ∀ x ∈ op.operands, ev x = ev' x) : effM P ev op = effM P ev' op := by
  cases op <;> simp only [Op.operands] at h <;> simp only [effM]
  case move x => exact h x (by simp)
  case assign x => exact h x (by simp)
  case pick c a b => rw [h c (by simp), h a (by simp), h b (by simp)]
  case binOp op t x y t' => rw [h x (by simp), h y (by simp)]
  case unOp op t x => rw [h x (by simp)]
  case convert a b x => rw [h x (by simp)]
  case extract x k => rw [h x (by simp)]
theorem effM_kill (k : Nat → Nat → Bool) {ev : Operand → Option TV} {op : Op} : effM P (fun x => (ev x).map (killTV k)) op = (effM P ev op).map (killTV k) := by
  have key : ∀ (t : TV) v, killTV k t = .one (.p (.raw v)) ↔ t = .one (.p (.raw v)) := fun t v => by
    cases t with
    | one x =>
      cases x with
      | p x => exact Iff.rfl
      | sl a r off len => simp only [killTV, killAV]; split <;> simp
      | ptr a r i j => simp only [killTV, killAV]; split <;> simp
      | junk => simp [killTV, killAV]
    | agg cs => simp [killTV]
    | fn f cs => simp [killTV]
    | tup ts => simp [killTV]
  cases op <;> simp only [effM] <;> try rfl
  case pick c a b =>
    cases hc : ev c with
    | none => rfl
    | some t =>
      simp only [Option.map_some]
      by_cases h1 : t = .one (.p (.raw (.bool true)))
      · subst h1; rfl
      · by_cases h2 : t = .one (.p (.raw (.bool false)))
        · subst h2; rfl
        · have e1 : ∀ b, killTV k t ≠ .one (.p (.raw (.bool b))) := fun b he => by
            have := (key t _).1 he
            cases b
            · exact h2 this
            · exact h1 this
          split
          · rename_i he; injection he with he; exact absurd he (e1 _)
          · rename_i he; injection he with he; exact absurd he (e1 _)
          · split
            · rename_i he; injection he with he; exact absurd he h1
            · rename_i he; injection he with he; exact absurd he h2
            · rfl
  case binOp op t x y t' =>
    cases hx : ev x with
    | none => rfl
    | some tx =>
      cases hy : ev y with
      | none =>
        simp only [Option.map_some, Option.map_none]
        split
        · rename_i he; cases he
        · rfl
      | some ty =>
        simp only [Option.map_some]
        by_cases h1 : ∃ a b, tx = .one (.p (.raw a)) ∧ ty = .one (.p (.raw b))
        · obtain ⟨a, b, rfl, rfl⟩ := h1
          simp only [killTV, killAV]
          cases evBin (boolO P t) op a b <;> rfl
        · split
          · rename_i a b ha hb
            injection ha with ha
            injection hb with hb
            exact absurd ⟨a, b, (key _ _).1 ha, (key _ _).1 hb⟩ h1
          · split
            · rename_i a b ha hb
              injection ha with ha
              injection hb with hb
              exact absurd ⟨a, b, ha, hb⟩ h1
            · rfl
  case unOp op t x =>
    cases hx : ev x with
    | none => rfl
    | some tx =>
      simp only [Option.map_some]
      by_cases h1 : ∃ a, tx = .one (.p (.raw a))
      · obtain ⟨a, rfl⟩ := h1
        simp only [killTV, killAV]
        cases evUn op a <;> rfl
      · split
        · rename_i a ha; injection ha with ha; exact absurd ⟨a, (key _ _).1 ha⟩ h1
        · split
          · rename_i a ha; injection ha with ha; exact absurd ⟨a, ha⟩ h1
          · rfl
  case convert a b x =>
    cases hx : ev x with
    | none => rfl
    | some tx =>
      simp only [Option.map_some]
      by_cases h1 : ∃ q n, tx = .one (.p (.raw (.int q n)))
      · obtain ⟨q, n, rfl⟩ := h1
        simp only [killTV, killAV]
        cases P.underlying a with
        | none => rfl
        | some u => cases intO P b <;> rfl
      · split
        · rename_i q n _ _ ha _ _; injection ha with ha; exact absurd ⟨_, _, (key _ _).1 ha⟩ h1
        · split
          · rename_i q n _ _ ha _ _; injection ha with ha; exact absurd ⟨_, _, ha⟩ h1
          · rfl
  case extract x i =>
    cases hx : ev x with
    | none => rfl
    | some tx =>
      cases tx with
      | one y => rfl
      | agg cs => rfl
      | fn f cs => rfl
      | tup ts =>
        simp only [Option.map_some, killTV, List.getElem?_map]
        cases hi : ts[i]? with
        | none => rfl
        | some t =>
          obtain ⟨b, cs⟩ := t
          cases b with
          | true => rfl
          | false =>
            cases cs with
            | nil => rfl
            | cons y l => cases l <;> rfl
theorem bound_congr {ev ev' : Operand → Option TV} {x : Option Operand} {d : Nat} (h : ∀ y, x = some y → ev y = ev' y) : bound ev x d = bound ev' x d := by
  cases x with
  | none => rfl
  | some y => simp only [bound, h y rfl]
theorem fill_congr {pl : List (Nat × Nat)} {ev ev' : Operand → Option TV} : ∀ (parts : List (Nat × Operand)) (cs : List AV), (∀ p ∈ parts, ev p.2 = ev' p.2) → fillA pl ev cs parts = fillA pl ev' cs parts
  | [], cs, _ => rfl
  | (f, x) :: rest, cs, h => by
    simp only [fillA, h (f, x) (by simp)]
    split
    · split
      · exact fill_congr rest _ (fun p hp => h p (by simp [hp]))
      · rfl
    · rfl
theorem lit_congr {n : Nat} {ev ev' : Operand → Option TV} : ∀ (parts : List (Nat × Operand)) (i : Nat), (∀ p ∈ parts, ev p.2 = ev' p.2) → litA ev n i parts = litA ev' n i parts
  | [], i, _ => rfl
  | (f, x) :: rest, i, h => by
    simp only [litA, h (f, x) (by simp), lit_congr rest (i + 1) (fun p hp => h p (by simp [hp]))]
theorem evAll_congr {ev ev' : Operand → Option TV} : ∀ (l : List Operand), (∀ x ∈ l, ev x = ev' x) → evAll ev l = evAll ev' l
  | [], _ => rfl
  | x :: l, h => by simp only [evAll, h x (by simp), evAll_congr l (fun y hy => h y (by simp [hy]))]
theorem effR_congr {ev ev' : Operand → Option TV} {op : Op} (h : ∀ x ∈ op.operands, ev x = ev' x) (hl : ∀ x ∈ op.operands, ∀ t, ev x = some t → sameTV H H' t) : effR P ev H op = effR P ev' H' op := by
  cases op <;> simp only [Op.operands] at h hl <;> try (simp only [effR]; done)
  case load t x =>
    simp only [effR, ← h x (by simp)]
    cases hx : ev x with
    | none => rfl
    | some tx =>
      have := hl x (by simp) tx hx
      cases tx with
      | one y =>
        cases y with
        | ptr a r i j => simp only [show H' a = H a from this]
        | p y => cases y <;> rfl
        | sl a r off len => rfl
        | junk => rfl
      | agg cs => rfl
      | fn f cs => rfl
      | tup ts => rfl
  case indexAddr t x ix =>
    simp only [effR, ← h x (by simp), ← h ix (by simp)]
    cases sliceO P t with
    | none => rfl
    | some e =>
      cases hx : ev x with
      | none => rfl
      | some tx =>
        have := hl x (by simp) tx hx
        cases tx with
        | one y =>
          cases y with
          | sl a r off len => simp only [show H' a = H a from this]
          | p y => cases y <;> rfl
          | ptr a r i j => rfl
          | junk => rfl
        | agg cs => rfl
        | fn f cs => rfl
        | tup ts => rfl
  case fieldAddr t x f => simp only [effR, ← h x (by simp)]
  case field t x f => simp only [effR, ← h x (by simp)]
  case slice t x lo hi mx =>
    cases mx with
    | some m => simp only [effR]
    | none =>
      simp only [effR, ← h x (by simp)]
      have hlo : ∀ d, bound ev lo d = bound ev' lo d := fun d => bound_congr fun y hy => h y (by subst hy; simp)
      have hhi : ∀ d, bound ev hi d = bound ev' hi d := fun d => bound_congr fun y hy => h y (by subst hy; cases lo <;> simp)
      simp only [hlo, hhi]
      cases sliceO P t with
      | none => rfl
      | some e =>
        cases hx : ev x with
        | none => rfl
        | some tx =>
          have := hl x (by simp) tx hx
          cases tx with
          | one y =>
            cases y with
            | sl a r off len => simp only [show H' a = H a from this]
            | p y => cases y <;> rfl
            | ptr a r i j => rfl
            | junk => rfl
          | agg cs => rfl
          | fn f cs => rfl
          | tup ts => rfl
  case build t parts =>
    simp only [effR]
    have : ∀ pl cs, fillA pl ev cs parts.toList = fillA pl ev' cs parts.toList := fun pl cs => fill_congr _ _ (fun p hp => h p.2 (by simp only [List.mem_toArray, List.mem_map]; exact ⟨p, hp, rfl⟩))
    simp only [this]
  case nilCheck x => simp only [effR, ← h x (by simp)]
  case makeFunc fn first captured =>
    cases fn with
    | func f =>
      simp only [effR]
      rw [evAll_congr captured.toList (fun x hx => h x (by simp at hx ⊢; exact .inr hx))]
    | _ => simp only [effR]
  case call c =>
    obtain ⟨callee, ⟨args⟩, ⟨argTypes⟩⟩ := c
    cases callee with
    | builtin b =>
      cases b <;> try (simp only [effR]; done)
      simp only [effR]
      simp only [Call.operands] at h
      split
      · rename_i x t
        rw [h x (by simp)]
      · rfl
    | value f => simp only [effR]
    | invoke r m => simp only [effR]
  all_goals rfl
theorem norm_p (x : PV) : norm H' (.one (.p x)) = norm H (.one (.p x)) := by
  have key : ∀ G : OH, norm G (.one (.p x)) = .one (.p x) ∨ (x = .raw (.slice none 0 0) ∧ norm G (.one (.p x)) = .one (.p (.sl []))) := fun G => by
    unfold norm
    split
    · rename_i heq; cases heq
    · rename_i heq; injection heq with heq; injection heq with heq; exact .inr ⟨heq, rfl⟩
    · exact .inl rfl
  by_cases hx : x = .raw (.slice none 0 0)
  · subst hx; rfl
  · rcases key H with h1 | ⟨h1, _⟩
    · rcases key H' with h2 | ⟨h2, _⟩
      · rw [h1, h2]
      · exact absurd h2 hx
    · exact absurd h1 hx
theorem news_p (x : PV) : newsOf H' (.one (.p x)) = newsOf H (.one (.p x)) := by
  unfold newsOf
  split
  · rename_i heq; injection heq with heq; injection heq with heq; subst heq; rfl
  · rename_i heq; injection heq with heq; injection heq with heq; subst heq; rfl
  · rename_i heq; cases heq
  · rfl
theorem norm_grow {t : TV} (hl : sameTV H H' t) : norm H' t = norm H t ∧ ∀ b, normOk b H' t = normOk b H t := by
  cases t with
  | one x =>
    cases x with
    | sl a r off len => exact ⟨by simp only [norm, show H' a = H a from hl], fun b => by simp only [normOk, show H' a = H a from hl]⟩
    | p x => exact ⟨norm_p x, fun b => rfl⟩
    | ptr a r i j => exact ⟨rfl, fun b => rfl⟩
    | junk => exact ⟨rfl, fun b => rfl⟩
  | agg cs => exact ⟨rfl, fun b => rfl⟩
  | fn f cs => exact ⟨rfl, fun b => rfl⟩
  | tup ts => exact ⟨rfl, fun b => rfl⟩
theorem news_grow {t : TV} (hl : sameTV H H' t) : newsOf H' t = newsOf H t := by
  cases t with
  | one x =>
    cases x with
    | sl a r off len => simp only [newsOf, show H' a = H a from hl]
    | p x => exact news_p x
    | ptr a r i j => rfl
    | junk => rfl
  | agg cs => rfl
  | fn f cs => rfl
  | tup ts => rfl
theorem effA_congr {items : List (Item P)} {ow : List Nat} {i d : Nat} {ev ev' : Operand → Option TV} {op : Op} (h : ∀ x ∈ op.operands, ev x = ev' x) (hl : ∀ x ∈ op.operands, ∀ t, ev x = some t → sameTV H H' t) : effA P items ow i d ev H op = effA P items ow i d ev' H' op := by
  cases op <;> simp only [Op.operands] at h hl <;> try (simp only [effA]; done)
  case box e x => simp only [effA, ← h x (by simp)]
  case makeSlice t l c => simp only [effA, ← h l (by simp), ← h c (by simp)]
  case buildSlice t n parts =>
    simp only [effA]
    have : ∀ n i, litA ev n i parts.toList = litA ev' n i parts.toList := fun n i => lit_congr _ _ (fun p hp => h p.2 (by simp only [List.mem_toArray, List.mem_map]; exact ⟨p, hp, rfl⟩))
    simp only [this]
  case call c =>
    obtain ⟨callee, ⟨args⟩, ⟨argTypes⟩⟩ := c
    simp only [Call.operands] at h hl
    cases callee with
    | value f =>
      have he : evAll ev args = evAll ev' args := evAll_congr args (fun x hx => h x (by simp [hx]))
      cases f <;> try (simp only [effA]; done)
      · rename_i k
        simp only [effA]
        rw [← he, ← h (.tmp k) (by simp)]
        cases hcl : calA (ev (.tmp k)) with
        | none => cases List.find? (fun x => x.i == i) items <;> cases evAll ev args <;> rfl
        | some fe =>
          obtain ⟨f, extra⟩ := fe
          cases hts : evAll ev args with
          | none => cases List.find? (fun x => x.i == i) items <;> rfl
          | some ts0 =>
            have hex : ∀ t ∈ extra, sameTV H H' t := fun t ht => by
              unfold calA at hcl
              split at hcl
              · rename_i f' cs hk
                injection hcl with hcl
                injection hcl with hcl hcl'
                subst hcl hcl'
                have hs := hl (.tmp k) (by simp) _ hk
                simp only [List.mem_map] at ht
                obtain ⟨y, hy, rfl⟩ := ht
                exact hs y hy
              · split at hcl
                · injection hcl with hcl
                  injection hcl with hcl hcl'
                  subst hcl hcl'
                  simp at ht
                · cases hcl
              · cases hcl
            have hlv : ∀ t ∈ ts0 ++ extra, sameTV H H' t := fun t ht => by
              rcases List.mem_append.1 ht with ht | ht
              · obtain ⟨j, hj, rfl⟩ := List.getElem_of_mem ht
                obtain ⟨x, hx, hxt⟩ := (evAll_spec hts).2 j _ (List.getElem?_eq_getElem hj)
                exact hl x (by simp [List.mem_of_getElem? hx]) _ hxt
              · exact hex t ht
            have e1 : (ts0 ++ extra).map (norm H') = (ts0 ++ extra).map (norm H) := List.map_congr_left fun t ht => (norm_grow (hlv t ht)).1
            have e2 : ∀ b, (ts0 ++ extra).all (normOk b H') = (ts0 ++ extra).all (normOk b H) := fun b => by
              rw [Bool.eq_iff_iff]
              simp only [List.all_eq_true]
              exact ⟨fun hh t ht => by rw [← (norm_grow (hlv t ht)).2 b]; exact hh t ht, fun hh t ht => by rw [(norm_grow (hlv t ht)).2 b]; exact hh t ht⟩
            cases List.find? (fun x => x.i == i) items with
            | none => rfl
            | some it =>
              have ec : (it.f = f ∧ (ts0 ++ extra).map (norm H') = it.args ∧ (ts0 ++ extra).all (normOk it.res.plain H') = true ∧ (!it.res.fam.isEmpty || noRefTV it.res.r) = true) ↔ (it.f = f ∧ (ts0 ++ extra).map (norm H) = it.args ∧ (ts0 ++ extra).all (normOk it.res.plain H) = true ∧ (!it.res.fam.isEmpty || noRefTV it.res.r) = true) := by rw [e1, e2]
              by_cases hc : it.f = f ∧ (ts0 ++ extra).map (norm H) = it.args ∧ (ts0 ++ extra).all (normOk it.res.plain H) = true ∧ (!it.res.fam.isEmpty || noRefTV it.res.r) = true
              · simp only []
                rw [if_pos hc, if_pos (ec.2 hc)]
              · simp only []
                rw [if_neg hc, if_neg (fun h => hc (ec.1 h))]
      rename_i f
      simp only [effA]
      rw [← he]
      cases hts : evAll ev args with
      | none => cases List.find? (fun x => x.i == i) items <;> rfl
      | some ts =>
        have hlv : ∀ t ∈ ts, sameTV H H' t := fun t ht => by
          obtain ⟨k, hk, rfl⟩ := List.getElem_of_mem ht
          obtain ⟨x, hx, hxt⟩ := (evAll_spec hts).2 k _ (List.getElem?_eq_getElem hk)
          exact hl x (by simp [List.mem_of_getElem? hx]) _ hxt
        have e1 : ts.map (norm H') = ts.map (norm H) := List.map_congr_left fun t ht => (norm_grow (hlv t ht)).1
        have e2 : ∀ b, ts.all (normOk b H') = ts.all (normOk b H) := fun b => by
          rw [Bool.eq_iff_iff]
          simp only [List.all_eq_true]
          exact ⟨fun hh t ht => by rw [← (norm_grow (hlv t ht)).2 b]; exact hh t ht, fun hh t ht => by rw [(norm_grow (hlv t ht)).2 b]; exact hh t ht⟩
        cases List.find? (fun x => x.i == i) items with
        | none => rfl
        | some it =>
          have ec : (it.f = f ∧ ts.map (norm H') = it.args ∧ ts.all (normOk it.res.plain H') = true ∧ (!it.res.fam.isEmpty || noRefTV it.res.r) = true) ↔ (it.f = f ∧ ts.map (norm H) = it.args ∧ ts.all (normOk it.res.plain H) = true ∧ (!it.res.fam.isEmpty || noRefTV it.res.r) = true) := by rw [e1, e2]
          by_cases hc : it.f = f ∧ ts.map (norm H) = it.args ∧ ts.all (normOk it.res.plain H) = true ∧ (!it.res.fam.isEmpty || noRefTV it.res.r) = true
          · simp only []
            rw [if_pos hc, if_pos (ec.2 hc)]
          · simp only []
            rw [if_neg hc, if_neg (fun h => hc (ec.1 h))]
    | builtin b =>
      cases b <;> try (simp only [effA]; done)
      simp only [effA]
      split
      · rename_i x y t t'
        rw [← h x (by simp), ← h y (by simp)]
        have e1 : (ev y).bind (newsOf H') = (ev y).bind (newsOf H) := by
          cases hy : ev y with
          | none => rfl
          | some ty => exact news_grow (hl y (by simp) ty hy)
        rw [e1]
      · rfl
    | invoke r m => simp only [effA]
end
end Go.Proofs.YtobnpabndpmabaaGreat
