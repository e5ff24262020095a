/-
  Part 10 of a proof (walks and plain facts).
-/
import Derived.Test.YtobnpabndpmabaaGreatP08
set_option linter.all false
namespace Go.Proofs.YtobnpabndpmabaaGreat
open Go.RowKit
def zPV : PV → PV
  | .raw (.slice none 0 0) => .sl []
  | x => x
def zAV : AV → AV
  | .p x => .p (zPV x)
  | x => x
def zO (o : OObj) : OObj := { o with elems := o.elems.map (List.map zAV) }
theorem zPV_rep {X : Nat → Prop} {w : World} {x : PV} {v : Value} (h : Rep X w x v) : Rep X w (zPV x) v := by
  unfold zPV
  split
  · cases h; exact .nil none 0
  · exact h
theorem zAV_rel {ρ : Rho} {H : OH} {X : Nat → Prop} {w : World} {x : AV} {v : Value} (h : x.rel ρ H X w v) : (zAV x).rel ρ H X w v := by
  cases x with
  | p x => exact zPV_rep h
  | sl a r off len => exact h
  | ptr a r i j => exact h
  | junk => exact h
section
variable {H : OH} {d : Nat}
def zH (H : OH) (d : Nat) : OH := updH H d ((H d).map zO)
theorem zH_get {a r : Nat} {o : OObj} (h : (zH H d a)[r]? = some o) : ∃ o', (H a)[r]? = some o' ∧ ((a = d ∧ o = zO o') ∨ o = o') := by
  unfold zH at h
  by_cases ha : a = d
  · subst ha
    rw [updH_eq, List.getElem?_map] at h
    obtain ⟨o', h1, h2⟩ := Option.map_eq_some_iff.1 h
    exact ⟨o', h1, .inl ⟨rfl, h2.symm⟩⟩
  · rw [updH_ne ha] at h
    exact ⟨o, h, .inr rfl⟩
theorem zH_of {a r : Nat} {o : OObj} (h : (H a)[r]? = some o) : ∃ o', (zH H d a)[r]? = some o' ∧ o'.es = o.es ∧ o'.elems.length = o.elems.length := by
  unfold zH
  by_cases ha : a = d
  · subst ha
    exact ⟨zO o, by rw [updH_eq, List.getElem?_map, h]; rfl, rfl, by simp [zO]⟩
  · exact ⟨o, by rw [updH_ne ha]; exact h, rfl, rfl⟩
theorem zH_Xo (X : Nat → Prop) (ρ : Rho) : Xo X ρ (zH H d) = Xo X ρ H := by
  funext b
  apply propext
  constructor
  · rintro (h | ⟨a, r, o, c, h1, h2⟩)
    · exact .inl h
    · obtain ⟨o', g1, _⟩ := zH_get h1
      exact .inr ⟨a, r, o', c, g1, h2⟩
  · rintro (h | ⟨a, r, o, c, h1, h2⟩)
    · exact .inl h
    · obtain ⟨o', g1, _⟩ := zH_of (d := d) h1
      exact .inr ⟨a, r, o', c, g1, h2⟩
theorem zH_av {ρ : Rho} {X : Nat → Prop} {w : World} {x : AV} {v : Value} (h : x.rel ρ H X w v) : x.rel ρ (zH H d) X w v := by
  cases x with
  | p x => exact h
  | junk => trivial
  | sl a r off len =>
    obtain ⟨o, h1, h2, h3⟩ := h
    obtain ⟨o', g1, g2, g3⟩ := zH_of (d := d) h1
    exact ⟨o', g1, by omega, by rw [g2]; exact h3⟩
  | ptr a r i j =>
    obtain ⟨o, b, c, h1, h2, h3, h4⟩ := h
    obtain ⟨o', g1, g2, g3⟩ := zH_of (d := d) h1
    exact ⟨o', b, c, g1, h2, by omega, by rw [g2]; exact h4⟩
theorem zH_tv {ρ : Rho} {X : Nat → Prop} {w : World} {t : TV} {v : Value} (h : t.rel ρ H X w v) : t.rel ρ (zH H d) X w v := by
  have agg : ∀ {cs : List AV} {v : Value}, aggRel ρ H X w cs v → aggRel ρ (zH H d) X w cs v := fun {cs v} ⟨vs, h1, h2, h3⟩ =>
    ⟨vs, h1, h2, fun j x hx => by obtain ⟨u, u1, u2, u3⟩ := h3 j x hx; exact ⟨u, u1, u2, zH_av u3⟩⟩
  cases t with
  | one x => exact zH_av (x := x) h
  | agg cs => exact agg h
  | fn f cs => obtain ⟨u, h1, h2⟩ := h; exact ⟨u, agg h1, h2⟩
  | tup ts =>
    obtain ⟨vs, h1, h2, h3⟩ := h
    refine ⟨vs, h1, h2, fun j b cs hj => ?_⟩
    obtain ⟨u, u1, u2⟩ := h3 j b cs hj
    refine ⟨u, u1, ?_⟩
    rcases u2 with ⟨e, g⟩ | ⟨e, x, hx, g⟩
    · exact .inl ⟨e, agg g⟩
    · exact .inr ⟨e, x, hx, zH_av g⟩
theorem zO_obj {ρ : Rho} {X : Nat → Prop} {w : World} {a r : Nat} {o : OObj} (h : objRel ρ H X w a r o) : objRel ρ (zH H d) X w a r (zO o) ∧ objRel ρ (zH H d) X w a r o := by
  obtain ⟨h1, h2, h3⟩ := h
  refine ⟨⟨fun e he => ?_, h2, ?_⟩, ⟨h1, h2, ?_⟩⟩
  · simp only [zO, List.mem_map] at he
    obtain ⟨e', he', rfl⟩ := he
    simp only [List.length_map, zO]
    exact h1 e' he'
  · cases hρ : ρ a r with
    | none => rw [hρ] at h3; simp only at h3 ⊢; simp [zO, h3]
    | some bc =>
      obtain ⟨b, c⟩ := bc
      rw [hρ] at h3
      obtain ⟨cells, g1, g2, g3, g4, g5⟩ := h3
      refine ⟨cells, g1, g2, by simpa [zO] using g3, g4, fun i e j x hi hj => ?_⟩
      simp only [zO, List.getElem?_map] at hi
      obtain ⟨e', he', rfl⟩ := Option.map_eq_some_iff.1 hi
      simp only [List.getElem?_map] at hj
      obtain ⟨x', hx', rfl⟩ := Option.map_eq_some_iff.1 hj
      obtain ⟨v, v1, v2, v3⟩ := g5 i e' j x' he' hx'
      exact ⟨v, v1, v2, zAV_rel (zH_av v3)⟩
  · cases hρ : ρ a r with
    | none => rw [hρ] at h3; exact h3
    | some bc =>
      obtain ⟨b, c⟩ := bc
      rw [hρ] at h3
      obtain ⟨cells, g1, g2, g3, g4, g5⟩ := h3
      refine ⟨cells, g1, g2, g3, g4, fun i e j x hi hj => ?_⟩
      obtain ⟨v, v1, v2, v3⟩ := g5 i e j x hi hj
      exact ⟨v, v1, v2, zH_av v3⟩
end
theorem Weak_zH {s : AS} (d : Nat) : Weak s ⟨s.tmps, zH s.H d⟩ := by
  rintro w0 O X a w ⟨h1, hsz, ρ, hinv, htm⟩
  refine ⟨h1, hsz, ρ, ⟨hinv.keep, fun a r o ho => ?_, fun a r a' r' o o' b c c' ho ho' hb hb' => ?_, fun a r o b c ho hb => ?_, hinv.bar, fun a r o ho => ?_⟩, fun t x hx => ?_⟩
  · obtain ⟨o', g1, g2⟩ := zH_get ho
    show objRel ρ (zH s.H d) (Xo X ρ (zH s.H d)) w a r o
    rw [zH_Xo]
    rcases g2 with ⟨_, rfl⟩ | rfl
    · exact (zO_obj (hinv.objs a r o' g1)).1
    · exact (zO_obj (hinv.objs a r o g1)).2
  · obtain ⟨p, g1, _⟩ := zH_get ho
    obtain ⟨p', g2, _⟩ := zH_get ho'
    exact hinv.inj a r a' r' p p' b c c' g1 g2 hb hb'
  · obtain ⟨p, g1, _⟩ := zH_get ho
    exact hinv.old a r p b c g1 hb
  · obtain ⟨o', g1, g2⟩ := zH_get ho
    have := hinv.self a r o' g1
    rcases g2 with ⟨_, rfl⟩ | rfl
    · intro e he x hx
      simp only [zO, List.mem_map] at he
      obtain ⟨e', he', rfl⟩ := he
      simp only [List.mem_map] at hx
      obtain ⟨x', hx', rfl⟩ := hx
      have := this e' he' x' hx'
      cases x' <;> first | exact this | trivial
    · exact this
  · obtain ⟨v, v1, v2⟩ := htm t x hx
    refine ⟨v, v1, ?_⟩
    show x.rel ρ (zH s.H d) (Xo X ρ (zH s.H d)) w v
    rw [zH_Xo]
    exact zH_tv v2
theorem Weak_zS {s : AS} (k : Nat) (hk : s.tmps[k]? = some (.raw (.slice none 0 0))) : Weak s ⟨s.tmps.set k (.one (.p (.sl []))), s.H⟩ := by
  rintro w0 O X a w ⟨h1, hsz, ρ, hinv, htm⟩
  refine ⟨h1, by simpa using hsz, ρ, hinv, fun t x hx => ?_⟩
  by_cases htk : t = k
  · subst htk
    obtain ⟨v, v1, v2⟩ := htm t _ hk
    have hlt := (List.getElem?_eq_some_iff.1 hk).1
    rw [List.getElem?_set_self hlt] at hx
    injection hx with hx
    subst hx
    have v2 : Rep (Xo X ρ s.H) w (.raw (.slice none 0 0)) v := v2
    cases v2
    exact ⟨_, v1, Rep.nil none 0⟩
  · rw [List.getElem?_set_ne (fun h => htk h.symm)] at hx
    exact htm t x hx
end Go.Proofs.YtobnpabndpmabaaGreat
namespace Go.Proofs.YtobnpabndpmabaaGreat
open Go.RowKit
def spn (d : Nat) (l : List Nat) : List (List AV) := l.mapIdx fun k c => [.sl d (k + 1) 0 c]
def rwO (r : List Int) : OObj := ⟨79, 2, lc fZ r⟩
def mxO (d : Nat) (R : List (List Int)) : List OObj := ⟨122, 1, spn d (R.map List.length)⟩ :: R.map rwO
def zst (d n c i : Nat) : List OObj := ⟨122, 1, spn d (List.replicate i c) ++ List.replicate (n - i) [.p (.sl [])]⟩ :: List.replicate i (rwO (List.replicate c 0))
theorem spn_len (d : Nat) (l : List Nat) : (spn d l).length = l.length := by simp [spn]
theorem spn_snoc (d : Nat) (l : List Nat) (c : Nat) : spn d (l ++ [c]) = spn d l ++ [[.sl d (l.length + 1) 0 c]] := by simp [spn, List.mapIdx_append]
theorem spn_z (d : Nat) (l : List Nat) : (spn d l).map (List.map zAV) = spn d l := by
  apply List.ext_getElem?
  intro k
  simp only [spn, List.getElem?_map, List.getElem?_mapIdx]
  cases l[k]? <;> rfl
theorem rw_z (r : List Int) : (lc fZ r).map (List.map zAV) = lc fZ r := by simp [lc, fZ, zAV, zPV]
theorem zst_start (d n c : Nat) : ([⟨122, 1, List.replicate n [.raw (.slice none 0 0)]⟩] : List OObj).map zO = zst d n c 0 := by
  simp [zst, zO, spn, zAV, zPV]
theorem zst_done (d n c : Nat) : zst d n c n = mxO d (List.replicate n (List.replicate c 0)) := by
  simp [zst, mxO]
theorem zst_get {d n c i : Nat} (hi : i < n) : (spn d (List.replicate i c) ++ List.replicate (n - i) [AV.p (PV.sl [])])[i]? = some [.p (.sl [])] := by
  rw [List.getElem?_append_right (by simp [spn_len]), spn_len, List.length_replicate, Nat.sub_self, List.getElem?_replicate, if_pos (by omega)]
theorem zst_step {d n c i : Nat} (hi : i < n) :
    ((⟨122, 1, (spn d (List.replicate i c) ++ List.replicate (n - i) [AV.p (PV.sl [])]).set i [.sl d (i + 1) 0 c]⟩ :: List.replicate i (rwO (List.replicate c 0)) ++ [⟨79, 2, List.replicate c [.raw (.bool false), .raw (.slice none 0 0)]⟩] : List OObj)).map zO = zst d n c (i + 1) := by
  have e1 : (spn d (List.replicate i c) ++ List.replicate (n - i) [AV.p (PV.sl [])]).set i [.sl d (i + 1) 0 c] = spn d (List.replicate (i + 1) c) ++ List.replicate (n - (i + 1)) [AV.p (PV.sl [])] := by
    rw [List.set_append_right _ _ (by simp [spn_len]), spn_len, List.length_replicate, Nat.sub_self, List.replicate_succ' (n := i), spn_snoc, List.length_replicate, List.append_assoc]
    congr 1
    rw [show n - i = n - (i + 1) + 1 by omega, List.replicate_succ]
    rfl
  rw [e1]
  simp only [List.cons_append, List.map_cons, List.map_append, List.map_replicate, zst]
  congr 1
  · simp [zO, spn_z, zAV, zPV]
  · rw [List.replicate_succ']
    congr 1
    · congr 1
      simp [zO, rwO, rw_z]
    · simp [zO, rwO, lc, fZ, zAV, zPV, limbs_zero, ls]
theorem spn_ren (d e : Nat) (l : List Nat) : (spn d l).map (List.map (renAV e)) = spn e l := by
  apply List.ext_getElem?
  intro k
  simp only [spn, List.getElem?_map, List.getElem?_mapIdx]
  cases l[k]? <;> rfl
theorem rwO_ren (e : Nat) (r : List Int) : renO e (rwO r) = rwO r := by simp [renO, rwO, lc_ren]
theorem mxO_ren (d e : Nat) (R : List (List Int)) : (mxO d R).map (renO e) = mxO e R := by
  simp only [mxO, List.map_cons, List.map_map]
  congr 1
  · simp [renO, spn_ren]
  · exact List.map_congr_left fun r _ => rwO_ren e r
structure ZrG (n : Nat) where
  i : Nat
  hi : i ≤ n
set_option maxRecDepth 100000 in
set_option maxHeartbeats 4000000 in
theorem Zero_C (n c : Nat) (hn : n ≤ 16) (hc : c ≤ 16) : CallC Tryz.prog 90 [.raw (.int .i64 (n : Int)), .raw (.int .i64 (c : Int))] ⟨mxO 0 (List.replicate n (List.replicate c 0)), .one (.sl 0 0 0 n)⟩ := by
  refine callC_of Tryz.func90 rfl (by kernel_rfl) ?_; rw [Tryz.ntmps90]
  (refine WpA_sreg [] [] (by simp) fun K hK => ?_; simp (disch := omega) only [kc, prep1, Nat.reduceAdd, List.replicate, ofConst, Value.oneCell']; (with_reducible refine hK _ ?_))
  (refine WpA_sreg [] [] (by simp) fun K hK => ?_; simp (disch := omega) only [kc, prep1, Nat.reduceAdd, opS_makeSlice, newS, effA, ty_slice50, ty_zero122, ty_sz122, ty_by122, Int.natCast_nonneg, Value.oneCell', and_true, ifT]; (with_reducible refine hK _ ?_))
  (refine WpA_seq (WpA_sreg [] [] (by simp) fun K hK => ?_); simp (disch := omega) only [kc, prep1, Nat.reduceAdd, opS_len, effR, ty_slice50, ofConst, Value.oneCell']; (with_reducible refine hK _ ?_))
  refine WpA_forb (G := ZrG n) (fun g => ⟨[.raw (.int .i64 (n : Int)), .raw (.int .i64 (c : Int)), jk, jk, .raw (.slice none 0 0), .one (.sl 8 0 0 n), jk, jk, jk, jk, .raw (.int .i64 (n : Int)), .raw (.int .i64 (g.i : Int)), jk, jk, jk, jk, jk, jk, jk, jk, jk], Hm [(8, zst 8 n c g.i)]⟩) (fun g => n - g.i) ⟨0, by omega⟩ ?_ ?_
  · refine (Weak_zH 8).trans (Weak_sub ⟨zst_start 8 n c, trivial⟩ ?_)
    simp [wkL, okTV, okAV]
  · rintro ⟨i, hi⟩
    simp only
    by_cases hm : i < n
    · (refine WpA_sreg [] [] (by simp) fun K hK => ?_; simp (disch := omega) only [kc, prep1, Hm, effM, evBin, decT]; (with_reducible refine hK _ ?_))
      refine WpA_seq (WpA_cond rfl (fun _ => WpA_skip ?_) (fun h => by simp at h <;> omega))
      refine WpA_seq (WpA_block ?_)
      (refine WpA_sreg [] [] (by simp) fun K hK => ?_; simp (disch := omega) only [kc, prep1]; (with_reducible refine hK _ ?_))
      simp only [zst]
      have hg := zst_get (d := 8) (c := c) hm
      ((refine WpA_lreg [] [] (by simp) fun K hK => ?_); simp (disch := omega) only [kc, prep1, Nat.reduceAdd, opS_makeSlice, newS, effA, ty_slice122, ty_zero79, ty_sz79, ty_by79, Int.natCast_nonneg, Value.oneCell', and_true, ifT, Nat.reduceEqDiff, opS_indexAddr, effR, natOf_pos, ty_slice50, updH, ty_sz122, opS_store, wrS, effD, hg, putCells, ifF, List.length_replicate, List.all_replicate, isPure, ite_self, killTV, killAV, Nat.reduceBEq]; (with_reducible refine hK _ ?_))
      show WpA _ _ _ _
      ((refine WpA_lreg [] [] (by simp) fun K hK => ?_); simp (disch := omega) only [kc, prep1, effM, ofConst, Value.oneCell', evBin, wrapI]; (with_reducible refine hK _ ?_))
      refine ⟨⟨i + 1, by omega⟩, by simp only; omega, (Weak_zH 8).trans (Weak_sub ⟨zst_step hm, trivial⟩ ?_)⟩
      simp [wkL, okTV, okAV]
    · have hin : i = n := by omega
      subst hin
      (refine WpA_sreg [] [] (by simp) fun K hK => ?_; simp (disch := omega) only [kc, prep1, Hm, effM, evBin, decF]; (with_reducible refine hK _ ?_))
      refine WpA_seq (WpA_cond rfl (fun h => by simp at h <;> omega) (fun _ => WpA_exit ?_))
      show WpA _ _ _ _
      rw [zst_done]
      (refine WpA_sreg [] [] (by simp) fun K hK => ?_; simp (disch := omega) only [kc, prep1]; (with_reducible refine hK _ ?_))
      refine WpA_ret ⟨.inr rfl, _, Weak.refl _, ?_⟩
      refine ⟨.one (.sl 8 0 0 i), 8, ?_, rfl, ?_, rfl⟩
      · simp (disch := omega) only [resA, Tryz.results90, resOne, List.getElem?_cons_succ, List.getElem?_cons_zero]
      · exact (mxO_ren 8 0 _).symm
end Go.Proofs.YtobnpabndpmabaaGreat
namespace Go.Proofs.YtobnpabndpmabaaGreat
open Go.RowKit
def sw (p q r : Nat) : Nat := if r = p then q else if r = q then p else r
theorem sw_sw (p q r : Nat) : sw p q (sw p q r) = r := by
  unfold sw
  by_cases h1 : r = p
  · subst h1; by_cases h2 : q = r <;> simp [h2]
  · by_cases h2 : r = q
    · subst h2; simp [h1]
    · simp [h1, h2]
def ixS (a p q b r : Nat) : Nat := if b = a then sw p q r else r
theorem ixS_ixS (a p q b r : Nat) : ixS a p q b (ixS a p q b r) = r := by
  unfold ixS
  by_cases h : b = a <;> simp [h, sw_sw]
def swAV (a p q : Nat) : AV → AV
  | .sl b r off len => .sl b (ixS a p q b r) off len
  | .ptr b r i j => .ptr b (ixS a p q b r) i j
  | x => x
def swTV (a p q : Nat) : TV → TV
  | .one x => .one (swAV a p q x)
  | .agg cs => .agg (cs.map (swAV a p q))
  | .fn f cs => .fn f (cs.map (swAV a p q))
  | .tup ts => .tup (ts.map fun t => (t.1, t.2.map (swAV a p q)))
def swO (a p q : Nat) (o : OObj) : OObj := { o with elems := o.elems.map (List.map (swAV a p q)) }
theorem Weak_sw {s : AS} (a p q : Nat) (F : List OObj) (hF : ∀ r : Nat, F[r]? = ((s.H a)[sw p q r]?).map (swO a p q)) : Weak s ⟨s.tmps.map (swTV a p q), updH s.H a F⟩ := by
  rintro w0 O X act w ⟨h1, hsz, ρ, hinv, htm⟩
  have hof : ∀ (b r : Nat) o, (s.H b)[r]? = some o → ∃ o' : OObj, (updH s.H a F b)[ixS a p q b r]? = some o' ∧ o'.es = o.es ∧ o'.elems.length = o.elems.length := fun b r o ho => by
    by_cases hb : b = a
    · subst hb
      refine ⟨swO b p q o, ?_, rfl, by simp [swO]⟩
      rw [updH_eq, ixS, if_pos rfl, hF, sw_sw, ho]; rfl
    · exact ⟨o, by rw [updH_ne hb, ixS, if_neg hb]; exact ho, rfl, rfl⟩
  have hget : ∀ (b r : Nat) o', (updH s.H a F b)[r]? = some o' → ∃ o : OObj, (s.H b)[ixS a p q b r]? = some o ∧ ((b = a ∧ o' = swO a p q o) ∨ (b ≠ a ∧ o' = o)) := fun b r o' ho => by
    by_cases hb : b = a
    · subst hb
      rw [updH_eq, hF] at ho
      obtain ⟨o, g1, g2⟩ := Option.map_eq_some_iff.1 ho
      exact ⟨o, by rw [ixS, if_pos rfl]; exact g1, .inl ⟨rfl, g2.symm⟩⟩
    · rw [updH_ne hb] at ho
      exact ⟨o', by rw [ixS, if_neg hb]; exact ho, .inr ⟨hb, rfl⟩⟩
  let ρ' : Rho := fun b r => ρ b (ixS a p q b r)
  have hρ : ∀ b r, ρ' b (ixS a p q b r) = ρ b r := fun b r => by show ρ b _ = _; rw [ixS_ixS]
  have hXo : Xo X ρ' (updH s.H a F) = Xo X ρ s.H := by
    funext b
    apply propext
    constructor
    · rintro (h | ⟨x, r, o, c, g1, g2⟩)
      · exact .inl h
      · obtain ⟨o', g3, _⟩ := hget x r o g1
        exact .inr ⟨x, _, o', c, g3, g2⟩
    · rintro (h | ⟨x, r, o, c, g1, g2⟩)
      · exact .inl h
      · obtain ⟨o', g3, _⟩ := hof x r o g1
        exact .inr ⟨x, _, o', c, g3, by rw [hρ]; exact g2⟩
  have hav : ∀ (Y : Nat → Prop) x v, AV.rel ρ s.H Y w x v → AV.rel ρ' (updH s.H a F) Y w (swAV a p q x) v := fun Y x v h => by
    cases x with
    | p x => exact h
    | junk => trivial
    | sl b r off len =>
      obtain ⟨o, g1, g2, g3⟩ := h
      obtain ⟨o', k1, k2, k3⟩ := hof b r o g1
      exact ⟨o', k1, by omega, by rw [hρ, k2]; exact g3⟩
    | ptr b r i j =>
      obtain ⟨o, b', c, g1, g2, g3, g4⟩ := h
      obtain ⟨o', k1, k2, k3⟩ := hof b r o g1
      exact ⟨o', b', c, k1, by rw [hρ]; exact g2, by omega, by rw [k2]; exact g4⟩
  have hagg : ∀ (Y : Nat → Prop) cs v, aggRel ρ s.H Y w cs v → aggRel ρ' (updH s.H a F) Y w (cs.map (swAV a p q)) v := fun Y cs v ⟨vs, g1, g2, g3⟩ => by
    refine ⟨vs, g1, by simpa using g2, fun j x hx => ?_⟩
    rw [List.getElem?_map] at hx
    obtain ⟨y, hy, rfl⟩ := Option.map_eq_some_iff.1 hx
    obtain ⟨u, u1, u2, u3⟩ := g3 j y hy
    exact ⟨u, u1, u2, hav Y y u u3⟩
  refine ⟨h1, by simpa using hsz, ρ', ⟨hinv.keep, fun b r o' ho => ?_, fun b r b' r' o o' x c c' ho ho' hb hb' => ?_, fun b r o x c ho hb => ?_, hinv.bar, fun b r o' ho => ?_⟩, fun t x hx => ?_⟩
  · obtain ⟨o, g1, g2⟩ := hget b r o' ho
    have hob := hinv.objs b _ o g1
    have hself := hinv.self b _ o g1
    show objRel ρ' (updH s.H a F) (Xo X ρ' (updH s.H a F)) w b r o'
    rw [hXo]
    obtain ⟨q1, q2, q3⟩ := hob
    rcases g2 with ⟨rfl, rfl⟩ | ⟨hb, rfl⟩
    · refine ⟨fun e he => ?_, q2, ?_⟩
      · simp only [swO, List.mem_map] at he
        obtain ⟨e', he', rfl⟩ := he
        simp only [List.length_map, swO]
        exact q1 e' he'
      · show match ρ b (ixS b p q b r) with | none => _ | some (b, c) => _
        cases hr : ρ b (ixS b p q b r) with
        | none => rw [hr] at q3; simp only at q3 ⊢; simp [swO, q3]
        | some bc =>
          obtain ⟨b2, c⟩ := bc
          rw [hr] at q3
          obtain ⟨cells, p1, p2, p3, p4, p5⟩ := q3
          refine ⟨cells, p1, p2, by simpa [swO] using p3, p4, fun i e j x hi hj => ?_⟩
          simp only [swO, List.getElem?_map] at hi
          obtain ⟨e', he', rfl⟩ := Option.map_eq_some_iff.1 hi
          simp only [List.getElem?_map] at hj
          obtain ⟨x', hx', rfl⟩ := Option.map_eq_some_iff.1 hj
          obtain ⟨v, v1, v2, v3⟩ := p5 i e' j x' he' hx'
          exact ⟨v, v1, v2, hav _ _ _ v3⟩
    · refine ⟨q1, q2, ?_⟩
      show match ρ b (ixS a p q b r) with | none => _ | some (b, c) => _
      cases hr : ρ b (ixS a p q b r) with
      | none => rw [hr] at q3; exact q3
      | some bc =>
        obtain ⟨b2, c⟩ := bc
        rw [hr] at q3
        obtain ⟨cells, p1, p2, p3, p4, p5⟩ := q3
        refine ⟨cells, p1, p2, p3, p4, fun i e j x hi hj => ?_⟩
        obtain ⟨v, v1, v2, v3⟩ := p5 i e j x hi hj
        have hs := hself e (List.mem_of_getElem? hi) x (List.mem_of_getElem? hj)
        have hx : swAV a p q x = x := by
          cases x with
          | sl z _ _ _ => have hs : z = b := hs; subst hs; simp [swAV, ixS, hb]
          | ptr z _ _ _ => have hs : z = b := hs; subst hs; simp [swAV, ixS, hb]
          | p z => rfl
          | junk => rfl
        have := hav _ _ _ v3
        rw [hx] at this
        exact ⟨v, v1, v2, this⟩
  · obtain ⟨o1, g1, _⟩ := hget b r o ho
    obtain ⟨o2, g2, _⟩ := hget b' r' o' ho'
    obtain ⟨e1, e2⟩ := hinv.inj b _ b' _ o1 o2 x c c' g1 g2 hb hb'
    subst e1
    refine ⟨rfl, ?_⟩
    rw [← ixS_ixS a p q b r, e2, ixS_ixS]
  · obtain ⟨o1, g1, _⟩ := hget b r o ho
    exact hinv.old b _ o1 x c g1 hb
  · obtain ⟨o, g1, g2⟩ := hget b r o' ho
    have hs := hinv.self b _ o g1
    rcases g2 with ⟨rfl, rfl⟩ | ⟨hb, rfl⟩
    · intro e he x hx
      simp only [swO, List.mem_map] at he
      obtain ⟨e', he', rfl⟩ := he
      simp only [List.mem_map] at hx
      obtain ⟨x', hx', rfl⟩ := hx
      have := hs e' he' x' hx'
      cases x' <;> first | exact this | trivial
    · exact hs
  · simp only [List.getElem?_map] at hx
    obtain ⟨y, hy, rfl⟩ := Option.map_eq_some_iff.1 hx
    obtain ⟨v, v1, v2⟩ := htm t y hy
    refine ⟨v, v1, ?_⟩
    show TV.rel ρ' (updH s.H a F) (Xo X ρ' (updH s.H a F)) w (swTV a p q y) v
    rw [hXo]
    cases y with
    | one x => exact hav _ _ _ v2
    | agg cs => exact hagg _ _ _ v2
    | fn f cs => obtain ⟨u, h1, h2⟩ := v2; exact ⟨u, hagg _ _ _ h1, h2⟩
    | tup ts =>
      obtain ⟨vs, g1, g2, g3⟩ := v2
      refine ⟨vs, g1, by simpa using g2, fun j b cs hj => ?_⟩
      rw [List.getElem?_map] at hj
      obtain ⟨z, hz, hzz⟩ := Option.map_eq_some_iff.1 hj
      obtain ⟨b', cs'⟩ := z
      simp at hzz
      obtain ⟨rfl, rfl⟩ := hzz
      obtain ⟨u, u1, u2⟩ := g3 j b' cs' hz
      refine ⟨u, u1, ?_⟩
      rcases u2 with ⟨u2, u3⟩ | ⟨u2, q', rfl, u4⟩
      · exact .inl ⟨u2, hagg _ _ _ u3⟩
      · exact .inr ⟨u2, _, rfl, hav _ _ _ u4⟩
end Go.Proofs.YtobnpabndpmabaaGreat
namespace Go.Proofs.YtobnpabndpmabaaGreat
open Go.RowKit
abbrev mxF (d n c : Nat) (f : Nat → Nat → Int) : List OObj := ⟨122, 1, spn d (List.replicate n c)⟩ :: (mat n c f).map rwO
theorem mat_lens (n c : Nat) (f : Nat → Nat → Int) : (mat n c f).map List.length = List.replicate n c := by
  apply List.ext_getElem?
  intro i
  rw [List.getElem?_map, List.getElem?_replicate]
  by_cases h : i < n
  · rw [mat_get _ _ h, if_pos h]; simp [rowF_len]
  · rw [List.getElem?_eq_none (by rw [mat_len]; omega), if_neg h]; rfl
theorem mxF_eq (d n c : Nat) (f : Nat → Nat → Int) : mxO d (mat n c f) = mxF d n c f := by rw [mxO, mat_lens]
theorem mat_rep (n c : Nat) : List.replicate n (List.replicate c (0 : Int)) = mat n c fun _ _ => 0 := by
  apply List.ext_getElem?
  intro i
  rw [List.getElem?_replicate]
  by_cases h : i < n
  · rw [mat_get _ _ h, if_pos h]
    congr 1
    apply List.ext_getElem?
    intro j
    rw [List.getElem?_replicate]
    by_cases h : j < c
    · rw [rowF_get _ h, if_pos h]
    · rw [List.getElem?_eq_none (by rw [rowF_len]; omega), if_neg h]
  · rw [List.getElem?_eq_none (by rw [mat_len]; omega), if_neg h]
theorem spn_get {n i : Nat} (d c : Nat) (h : i < n) : (spn d (List.replicate n c))[i]? = some [.sl d (i + 1) 0 c] := by
  simp [spn, h]
theorem mxr_get {n i : Nat} (c : Nat) (f : Nat → Nat → Int) (h : i < n) : ((mat n c f).map rwO)[i]? = some ⟨79, 2, lc fZ (rowF c (f i))⟩ := by
  rw [List.getElem?_map, mat_get _ _ h]; rfl
def upd (f : Nat → Nat → Int) (i j : Nat) (v : Int) : Nat → Nat → Int := fun a => if a = i then (fun b => if b = j then v else f i b) else f a
theorem mxr_set {n i j : Nat} (c : Nat) (f : Nat → Nat → Int) (v : Int) : ((mat n c f).map rwO).set i ⟨79, 2, (lc fZ (rowF c (f i))).set j [.p (.raw (.bool (decide (v < 0)))), .p (.sl (ls fU (limbs v.natAbs)))]⟩ = (mat n c (upd f i j v)).map rwO := by
  have e : (⟨79, 2, (lc fZ (rowF c (f i))).set j [.p (.raw (.bool (decide (v < 0)))), .p (.sl (ls fU (limbs v.natAbs)))]⟩ : OObj) = rwO (rowF c fun b => if b = j then v else f i b) := by
    rw [← rowF_set, rwO, ← lc_set]; rfl
  rw [e, ← List.map_set, mat_set]; rfl
theorem mxr_congr {n c : Nat} {f g : Nat → Nat → Int} (h : ∀ i j, i < n → j < c → f i j = g i j) : (mat n c f).map rwO = (mat n c g).map rwO := by rw [mat_congr h]
theorem mxF_ren (d e n c : Nat) (f : Nat → Nat → Int) : (mxF d n c f).map (renO e) = mxF e n c f := by rw [← mxF_eq, ← mxF_eq, mxO_ren]
theorem fzOk_mx {H : OH} {d n c : Nat} {f : Nat → Nat → Int} (h : H d = mxF d n c f) : fzOk H d := fun r o ho e he x hx => by
  rw [h] at ho
  cases r with
  | succ r =>
    rw [List.getElem?_cons_succ, List.getElem?_map] at ho
    obtain ⟨l, hl, rfl⟩ := Option.map_eq_some_iff.1 ho
    exact .inl (pureRow_lc _ _ l e he x hx)
  | zero =>
    simp at ho
    subst ho
    simp only at he
    obtain ⟨k, hk⟩ := List.mem_iff_getElem?.1 he
    have hkn : k < n := by
      have := (List.getElem?_eq_some_iff.1 hk).1
      rwa [spn_len, List.length_replicate] at this
    rw [spn_get d c hkn] at hk
    injection hk with hk
    subst hk
    simp at hx
    subst hx
    refine .inr ⟨k + 1, 0, c, rwO (rowF c (f k)), rfl, ?_, pureRow_lc _ _ _⟩
    rw [h, List.getElem?_cons_succ, List.getElem?_map, mat_get _ _ hkn]; rfl
theorem fzM {H : OH} {d n c : Nat} {f : Nat → Nat → Int} (h : H d = mxF d n c f) : fzTV H d (.one (.sl d 0 0 n)) = slM (mat n c f) := by
  have e : ((spn d (List.replicate n c)).map (List.map (cellF H d))) = ls (fR fZ) (mat n c f) := by
    apply List.ext_getElem?
    intro i
    rw [List.getElem?_map, ls_get]
    by_cases hi : i < n
    · rw [spn_get d c hi, mat_get _ _ hi]
      simp only [Option.map_some, List.map_cons, List.map_nil, cellF, h, List.getElem?_cons_succ, mxr_get _ _ hi, fR, lc_take, lc_drop, lc_pure]
      rw [List.drop_zero, List.take_of_length_le (by rw [rowF_len]; omega)]
    · rw [List.getElem?_eq_none (by rw [spn_len, List.length_replicate]; omega), List.getElem?_eq_none (by rw [mat_len]; omega)]; rfl
  simp only [fzTV, fzAV, if_true, h, List.getElem?_cons_zero]
  rw [List.drop_zero, List.take_of_length_le (by rw [spn_len, List.length_replicate]; omega), e]
abbrev slI (M : List (List Int)) : TV := .one (.p (.sl (ls (fR fI) M)))
def fiN : TV := .tup [(false, [.p (.raw (.slice none 0 0))]), (false, [.p (.raw (.bool false))])]
def fiY (M : List (List Int)) : TV := .tup [(false, [.p (.sl (ls (fR fZ) M))]), (false, [.p (.raw (.bool true))])]
structure FiG (n : Nat) where
  i : Nat
  hi : i ≤ n
def part (f : Nat → Nat → Int) (i j : Nat) : Nat → Nat → Int := fun a b => if a < i ∨ (a = i ∧ b < j) then f a b else 0
theorem part_step (f : Nat → Nat → Int) (i j a b : Nat) : upd (part f i j) i j (f i j) a b = part f i (j + 1) a b := by
  unfold upd part
  by_cases h1 : a = i
  · subst h1
    by_cases h2 : b = j
    · subst h2; simp
    · have : b < j + 1 ↔ b < j := by omega
      simp [h2, this]
  · simp [h1]
theorem part_row {c : Nat} (f : Nat → Nat → Int) (i a b : Nat) (hb : b < c) : part f i c a b = part f (i + 1) 0 a b := by
  unfold part
  by_cases h1 : a < i
  · rw [if_pos (.inl h1), if_pos (.inl (by omega))]
  · by_cases h2 : a = i
    · rw [if_pos (.inr ⟨h2, hb⟩), if_pos (.inl (by omega))]
    · rw [if_neg (by omega), if_neg (by omega)]
theorem part_end {n : Nat} (f : Nat → Nat → Int) (a b : Nat) (ha : a < n) : part f n 0 a b = f a b := by
  unfold part; rw [if_pos (.inl ha)]
theorem part_zero (f : Nat → Nat → Int) : part f 0 0 = fun _ _ => 0 := by
  funext a b; unfold part; rw [if_neg (by omega)]
set_option maxRecDepth 100000 in
set_option maxHeartbeats 4000000 in
theorem FromInts_C (n c : Nat) (f : Nat → Nat → Int) (hn1 : 1 ≤ n) (hn : n ≤ 16) (hc1 : 1 ≤ c) (hc : c ≤ 16) (hf : ∀ i j, i < n → j < c → -9223372036854775808 ≤ f i j ∧ f i j ≤ 9223372036854775807) :
    CallC Tryz.prog 46 [slI (mat n c f)] ⟨[], fiY (mat n c f)⟩ := by
  have hml := mat_len n c f
  have h0 := mat_get (n := n) c f (i := 0) (by omega)
  have hZ := Zero_C n c hn hc
  rw [mat_rep, mxF_eq] at hZ
  refine callC_of Tryz.func46 rfl (by kernel_rfl) ?_; rw [Tryz.ntmps46]
  (refine WpA_sreg [] [] (by simp) fun K hK => ?_; simp (disch := omega) only [kc, prep1, slI, List.replicate, ofConst, Value.oneCell']; (with_reducible refine hK _ ?_))
  (refine WpA_seq (WpA_sreg [] [] (by simp) fun K hK => ?_); simp (disch := omega) only [kc, prep1, Nat.reduceAdd, opS_len, effR, ty_slice26, ls_len, hml, effM, ofConst, Value.oneCell', evBin, decF, stS_guard, ifT, opS_pick]; (with_reducible refine hK _ ?_))
  refine WpA_cond rfl (fun h => by simp at h <;> omega) (fun _ => WpA_skip ?_)
  show WpA _ _ _ _
  (refine WpA_seq (WpA_sreg [] [] (by simp) fun K hK => ?_); simp (disch := omega) only [kc, prep1, Nat.reduceAdd, opS_len, effR, ty_slice26, ls_len, hml, ofConst, Value.oneCell']; (with_reducible refine hK _ ?_))
  refine WpA_forb (G := FiG n) (fun g => ⟨[slI (mat n c f), jk, .raw (.slice none 0 0), .raw (.bool false), jk, jk, jk, jk, jk, jk, jk, jk, jk, jk, jk, jk, jk, slI (mat n c f), .raw (.int .i64 (n : Int)), .raw (.int .i64 (g.i : Int)), jk, jk, jk, jk, jk, jk, jk, jk, jk, jk, jk, jk, jk, jk, jk, jk, jk, jk, jk, jk, jk, jk, jk, jk, jk, jk, jk, jk, jk, jk, jk, jk, jk, jk, jk, jk, jk, jk, jk, jk, jk, jk, jk, jk, jk, jk, jk, jk, jk, jk, jk, jk, jk, jk, jk, jk, jk, jk], Hm []⟩) (fun g => n - g.i) ⟨0, by omega⟩ ?_ ?_
  · refine Weak_sub trivial ?_
    simp [wkL, okTV, okAV]
  · rintro ⟨i, hi⟩
    simp only
    by_cases hm : i < n
    · have hr := mat_get c f hm
      (refine WpA_sreg [] [] (by simp) fun K hK => ?_; simp (disch := omega) only [kc, prep1, slI, Hm, effM, evBin, decT]; (with_reducible refine hK _ ?_))
      refine WpA_seq (WpA_cond rfl (fun _ => WpA_skip ?_) (fun h => by simp at h <;> omega))
      refine WpA_seq (WpA_block ?_)
      (refine WpA_sreg [] [] (by simp) fun K hK => ?_; simp (disch := omega) only [kc, prep1, Nat.reduceAdd, opS_indexAddr, effR, natOf_pos, ty_slice26, ls_get, hr, fR, ty_sz29, packT, ty_agg29]; (with_reducible refine hK _ ?_))
      (refine WpA_sreg [] [] (by simp) fun K hK => ?_; simp (disch := omega) only [kc, prep1, Nat.reduceAdd, opS_len, effR, ty_slice29, ls_len, rowF_len, effM, ofConst, Value.oneCell', evBin, decF, stS_guard, ifT, opS_pick, opS_indexAddr, natOf_pos, Int.reduceToNat, ty_slice26, ls_get, h0, fR, ty_sz29, packT, ty_agg29, decT]; (with_reducible refine hK _ ?_))
      refine WpA_cond rfl (fun h => by simp at h <;> omega) (fun _ => WpA_skip ?_)
      show WpA _ _ _ _
      ((refine WpA_lreg [] [] (by simp) fun K hK => ?_); simp (disch := omega) only [kc, prep1, effM, ofConst, Value.oneCell', evBin, wrapI]; (with_reducible refine hK _ ?_))
      refine ⟨⟨i + 1, by omega⟩, by simp only; omega, Weak_sub trivial ?_⟩
      simp [wkL, okTV, okAV]
    · (refine WpA_sreg [] [] (by simp) fun K hK => ?_; simp (disch := omega) only [kc, prep1, slI, Hm, effM, evBin, decF]; (with_reducible refine hK _ ?_))
      refine WpA_seq (WpA_cond rfl (fun h => by simp at h <;> omega) (fun _ => WpA_exit ?_))
      show WpA _ _ _ _
      (refine WpA_sreg [⟨6, _, _, _, hZ⟩] [] (by simp) fun K hK => ?_; simp (disch := omega) only [kc, CItem.a, prep1, Nat.reduceAdd, opS_len, effR, ty_slice26, ls_len, hml, opS_indexAddr, ofConst, Value.oneCell', natOf_pos, Int.reduceToNat, ls_get, h0, fR, ty_sz29, packT, ty_agg29, ty_slice29, rowF_len, opS_call, newS, effA, List.find?_cons, evAll, norm, CallRes.plain, List.isEmpty_cons, rawTV, rawAV, normOk, Bool.not_false, noRefTV, noRefAV, Bool.or_false, renTV, renAV, renO]; (with_reducible refine hK _ ?_))
      (refine WpA_seq (WpA_sreg [] [] (by simp) fun K hK => ?_); simp (disch := omega) only [kc, prep1, Nat.reduceAdd, opS_len, effR, ty_slice26, ls_len, hml, ofConst, Value.oneCell']; (with_reducible refine hK _ ?_))
      refine WpA_forb (G := FiG n) (fun g => ⟨[slI (mat n c f), jk, .raw (.slice none 0 0), .raw (.bool false), jk, jk, .one (.sl 47 0 0 n), jk, jk, jk, jk, jk, jk, jk, jk, jk, jk, jk, jk, jk, jk, jk, jk, jk, jk, jk, jk, jk, jk, jk, jk, jk, jk, jk, jk, jk, jk, jk, jk, jk, jk, jk, jk, jk, jk, jk, jk, jk, jk, .raw (.int .i64 (n : Int)), .raw (.int .i64 (g.i : Int)), jk, jk, jk, jk, jk, jk, jk, jk, jk, jk, jk, jk, jk, jk, jk, jk, jk, jk, jk, jk, jk, jk, jk, jk, jk, jk, jk], Hm [(47, mxF 47 n c (part f g.i 0))]⟩) (fun g => n - g.i) ⟨0, by omega⟩ ?_ ?_
      · refine Weak_sub ⟨?_, trivial⟩ ?_
        · rw [part_zero]; exact mxF_ren 0 47 n c _
        · simp [wkL, okTV, okAV]
      · rintro ⟨i, hi⟩
        simp only
        by_cases hm2 : i < n
        · have hr := mat_get c f hm2
          (refine WpA_sreg [] [] (by simp) fun K hK => ?_; simp (disch := omega) only [kc, prep1, slI, Hm, effM, evBin, decT]; (with_reducible refine hK _ ?_))
          refine WpA_seq (WpA_cond rfl (fun _ => WpA_skip ?_) (fun h => by simp at h <;> omega))
          refine WpA_seq (WpA_block ?_)
          (refine WpA_sreg [] [] (by simp) fun K hK => ?_; simp (disch := omega) only [kc, prep1]; (with_reducible refine hK _ ?_))
          (refine WpA_sreg [] [] (by simp) fun K hK => ?_; simp (disch := omega) only [kc, prep1, Nat.reduceAdd, opS_indexAddr, effR, natOf_pos, ty_slice26, ls_get, hr, fR, ty_sz29, packT, ty_agg29, opS_len, ty_slice29, ls_len, rowF_len, ofConst, Value.oneCell']; (with_reducible refine hK _ ?_))
          refine WpA_forb (G := FiG c) (fun g => ⟨[slI (mat n c f), jk, .raw (.slice none 0 0), .raw (.bool false), jk, jk, .one (.sl 47 0 0 n), .raw (.int .i64 (i : Int)), jk, jk, jk, jk, jk, jk, jk, jk, jk, jk, jk, jk, jk, jk, jk, jk, jk, jk, jk, jk, jk, jk, jk, jk, jk, jk, jk, jk, jk, jk, jk, jk, jk, jk, jk, jk, jk, jk, jk, jk, jk, .raw (.int .i64 (n : Int)), .raw (.int .i64 (i : Int)), jk, jk, jk, jk, jk, jk, .raw (.int .i64 (c : Int)), .raw (.int .i64 (g.i : Int)), jk, jk, jk, jk, jk, jk, jk, jk, jk, jk, jk, jk, jk, jk, jk, jk, jk, jk, jk], Hm [(47, mxF 47 n c (part f i g.i))]⟩) (fun g => c - g.i) ⟨0, by omega⟩ ?_ ?_
          · refine Weak_sub ⟨rfl, trivial⟩ ?_
            simp [wkL, okTV, okAV]
          · rintro ⟨j, hj⟩
            simp only
            by_cases hm3 : j < c
            · have hjr := rowF_get (f i) hm3
              have hS := small_C (f i j) (hf i j hm2 hm3).1 (hf i j hm2 hm3).2
              have g1 := spn_get (n := n) (i := i) 47 c hm2
              have g2 := mxr_get c (part f i j) hm2
              have g3 := rowF_get (part f i j i) hm3
              (refine WpA_sreg [] [] (by simp) fun K hK => ?_; simp (disch := omega) only [kc, prep1, slI, Hm, effM, evBin, decT]; (with_reducible refine hK _ ?_))
              refine WpA_seq (WpA_cond rfl (fun _ => WpA_skip ?_) (fun h => by simp at h <;> omega))
              refine WpA_seq (WpA_block ?_)
              (refine WpA_sreg [] [] (by simp) fun K hK => ?_; simp (disch := omega) only [kc, prep1]; (with_reducible refine hK _ ?_))
              ((refine WpA_ldraw mixedA [⟨12, _, _, _, hS⟩] [] (by kernel_rfl) (by simp) fun K hK => ?_); simp (disch := omega) only [kc, tZ, CItem.a, prep1, Nat.reduceAdd, opS_indexAddr, effR, natOf_pos, ty_slice50, ty_sz122, ifT, g1, packT, ty_agg122, ty_slice26, ls_get, hr, fR, ty_sz29, ty_agg29, ty_slice29, hjr, fI, ty_sz2, ty_agg2, opS_call, newS, effA, List.find?_cons, evAll, norm, CallRes.plain, rawTV, rawAV, normOk, noRefTV, noRefAV, renTV, renAV, ty_slice122, g2, ty_sz79, opS_store, wrS, effD, lc_get, fZ, g3, cellsOf, Nat.le_refl, isPure, putCells, mxr_set, killTV, killAV]; (with_reducible refine hK _ ?_))
              show WpA _ _ _ _
              ((refine WpA_lreg [] [] (by simp) fun K hK => ?_); simp (disch := omega) only [kc, prep1, effM, ofConst, Value.oneCell', evBin, wrapI]; (with_reducible refine hK _ ?_))
              refine ⟨⟨j + 1, by omega⟩, by simp only; omega, Weak_sub ⟨?_, trivial⟩ ?_⟩
              · show _ :: _ = _ :: _
                rw [mxr_congr fun a b _ _ => part_step f i j a b]
              · simp [wkL, okTV, okAV]
            · have hjc : j = c := by omega
              subst hjc
              (refine WpA_sreg [] [] (by simp) fun K hK => ?_; simp (disch := omega) only [kc, prep1, slI, Hm, effM, evBin, decF]; (with_reducible refine hK _ ?_))
              refine WpA_seq (WpA_cond rfl (fun h => by simp at h <;> omega) (fun _ => WpA_exit ?_))
              show WpA _ _ _ _
              ((refine WpA_lreg [] [] (by simp) fun K hK => ?_); simp (disch := omega) only [kc, prep1, effM, ofConst, Value.oneCell', evBin, wrapI]; (with_reducible refine hK _ ?_))
              refine ⟨⟨i + 1, by omega⟩, by simp only; omega, Weak_sub ⟨?_, trivial⟩ ?_⟩
              · show _ :: _ = _ :: _
                rw [mxr_congr fun a b _ hb => part_row f i a b hb]
              · simp [wkL, okTV, okAV]
        · have hin : i = n := by omega
          subst hin
          (refine WpA_sreg [] [] (by simp) fun K hK => ?_; simp (disch := omega) only [kc, prep1, slI, Hm, effM, evBin, decF]; (with_reducible refine hK _ ?_))
          refine WpA_seq (WpA_cond rfl (fun h => by simp at h <;> omega) (fun _ => WpA_exit ?_))
          show WpA _ _ _ _
          have e : mxF 47 i c (part f i 0) = mxF 47 i c f := by
            show _ :: _ = _ :: _
            rw [mxr_congr fun a b ha _ => part_end f a b ha]
          rw [e]
          refine WpA.weak ((Weak_fz 47 (fzOk_mx rfl)).trans (Weak_sub (tm := [jk, jk, jk, jk, jk, jk, slM (mat i c f), jk, jk, jk, jk, jk, jk, jk, jk, jk, jk, jk, jk, jk, jk, jk, jk, jk, jk, jk, jk, jk, jk, jk, jk, jk, jk, jk, jk, jk, jk, jk, jk, jk, jk, jk, jk, jk, jk, jk, jk, jk, jk, jk, jk, jk, jk, jk, jk, jk, jk, jk, jk, jk, jk, jk, jk, jk, jk, jk, jk, jk, jk, jk, jk, jk, jk, jk, jk, jk, jk, jk]) (l := []) trivial (by simp [wkL, okTV, okAV]; exact (fzM (H := Hm [(47, mxF 47 i c f)]) (d := 47) (n := i) (c := c) (f := f) rfl).symm))) ?_
          (refine WpA_sreg [] [] (by simp) fun K hK => ?_; simp (disch := omega) only [kc, prep1, Nat.reduceAdd, slM, Hm, ofConst, Value.oneCell']; (with_reducible refine hK _ ?_))
          (refine WpA_ret ⟨.inr rfl, ret_now rfl ?_ rfl⟩; simp (disch := omega) only [resA, Tryz.results46, resL, resOne, List.getElem?_cons_succ, List.getElem?_cons_zero, Option.bind_some, tvPair, Option.map_some, fiY])
structure FiN (M : List (List Int)) where
  i : Nat
  hi : i ≤ M.length
  ok : ∀ r ∈ M.take i, rOk (M.headD []).length r
set_option maxRecDepth 100000 in
set_option maxHeartbeats 4000000 in
theorem FromInts_no (M : List (List Int)) (hM : ¬ ShP M) : CallC Tryz.prog 46 [slI M] ⟨[], fiN⟩ := by
  by_cases h1 : M.length < 1
  · refine callC_of Tryz.func46 rfl (by kernel_rfl) ?_; rw [Tryz.ntmps46]
    (refine WpA_sreg [] [] (by simp) fun K hK => ?_; simp (disch := omega) only [kc, prep1, slI, List.replicate, ofConst, Value.oneCell']; (with_reducible refine hK _ ?_))
    (refine WpA_seq (WpA_sreg [] [] (by simp) fun K hK => ?_); simp (disch := omega) only [kc, prep1, Nat.reduceAdd, opS_len, effR, ty_slice26, ls_len, effM, ofConst, Value.oneCell', evBin, decT, stS_guard, reduceCtorEq, Option.map_none, opS_pick]; (with_reducible refine hK _ ?_))
    refine WpA_cond rfl (fun _ => ?_) (fun h => by simp at h <;> omega)
    (refine WpA_sreg [] [] (by simp) fun K hK => ?_; simp (disch := omega) only [kc, prep1, ofConst, Value.oneCell']; (with_reducible refine hK _ ?_))
    (refine WpA_ret ⟨.inr rfl, ret_now rfl ?_ rfl⟩; simp (disch := omega) only [resA, Tryz.results46, resL, resOne, List.getElem?_cons_succ, List.getElem?_cons_zero, Option.bind_some, tvPair, Option.map_some, fiN])
  by_cases h2 : 16 < M.length
  · refine callC_of Tryz.func46 rfl (by kernel_rfl) ?_; rw [Tryz.ntmps46]
    (refine WpA_sreg [] [] (by simp) fun K hK => ?_; simp (disch := omega) only [kc, prep1, slI, List.replicate, ofConst, Value.oneCell']; (with_reducible refine hK _ ?_))
    (refine WpA_seq (WpA_sreg [] [] (by simp) fun K hK => ?_); simp (disch := omega) only [kc, prep1, Nat.reduceAdd, opS_len, effR, ty_slice26, ls_len, effM, ofConst, Value.oneCell', evBin, decF, stS_guard, ifT, decT, opS_pick]; (with_reducible refine hK _ ?_))
    refine WpA_cond rfl (fun _ => ?_) (fun h => by simp at h <;> omega)
    (refine WpA_sreg [] [] (by simp) fun K hK => ?_; simp (disch := omega) only [kc, prep1, ofConst, Value.oneCell']; (with_reducible refine hK _ ?_))
    (refine WpA_ret ⟨.inr rfl, ret_now rfl ?_ rfl⟩; simp (disch := omega) only [resA, Tryz.results46, resL, resOne, List.getElem?_cons_succ, List.getElem?_cons_zero, Option.bind_some, tvPair, Option.map_some, fiN])
  have h0 := headD_at (M := M) (by omega)
  refine callC_of Tryz.func46 rfl (by kernel_rfl) ?_; rw [Tryz.ntmps46]
  (refine WpA_sreg [] [] (by simp) fun K hK => ?_; simp (disch := omega) only [kc, prep1, slI, List.replicate, ofConst, Value.oneCell']; (with_reducible refine hK _ ?_))
  (refine WpA_seq (WpA_sreg [] [] (by simp) fun K hK => ?_); simp (disch := omega) only [kc, prep1, Nat.reduceAdd, opS_len, effR, ty_slice26, ls_len, effM, ofConst, Value.oneCell', evBin, decF, stS_guard, ifT, opS_pick]; (with_reducible refine hK _ ?_))
  refine WpA_cond rfl (fun h => by simp at h <;> omega) (fun _ => WpA_skip ?_)
  show WpA _ _ _ _
  (refine WpA_seq (WpA_sreg [] [] (by simp) fun K hK => ?_); simp (disch := omega) only [kc, prep1, Nat.reduceAdd, opS_len, effR, ty_slice26, ls_len, ofConst, Value.oneCell']; (with_reducible refine hK _ ?_))
  refine WpA_forb (G := FiN M) (fun g => ⟨[slI M, jk, .raw (.slice none 0 0), .raw (.bool false), jk, jk, jk, jk, jk, jk, jk, jk, jk, jk, jk, jk, jk, slI M, .raw (.int .i64 (M.length : Int)), .raw (.int .i64 (g.i : Int)), jk, jk, jk, jk, jk, jk, jk, jk, jk, jk, jk, jk, jk, jk, jk, jk, jk, jk, jk, jk, jk, jk, jk, jk, jk, jk, jk, jk, jk, jk, jk, jk, jk, jk, jk, jk, jk, jk, jk, jk, jk, jk, jk, jk, jk, jk, jk, jk, jk, jk, jk, jk, jk, jk, jk, jk, jk, jk], Hm []⟩) (fun g => M.length - g.i) ⟨0, by omega, fun r hr => by simp at hr⟩ ?_ ?_
  · refine Weak_sub trivial ?_
    simp [wkL, okTV, okAV]
  · rintro ⟨i, hi, ok⟩
    simp only
    by_cases hm : i < M.length
    · obtain ⟨r, hr⟩ := getElem?_of_lt hm
      (refine WpA_sreg [] [] (by simp) fun K hK => ?_; simp (disch := omega) only [kc, prep1, slI, Hm, effM, evBin, decT]; (with_reducible refine hK _ ?_))
      refine WpA_seq (WpA_cond rfl (fun _ => WpA_skip ?_) (fun h => by simp at h <;> omega))
      refine WpA_seq (WpA_block ?_)
      (refine WpA_sreg [] [] (by simp) fun K hK => ?_; simp (disch := omega) only [kc, prep1, Nat.reduceAdd, opS_indexAddr, effR, natOf_pos, ty_slice26, ls_get, hr, fR, ty_sz29, packT, ty_agg29]; (with_reducible refine hK _ ?_))
      by_cases c1 : r.length < 1
      · (refine WpA_sreg [] [] (by simp) fun K hK => ?_; simp (disch := omega) only [kc, prep1, Nat.reduceAdd, opS_len, effR, ty_slice29, ls_len, effM, ofConst, Value.oneCell', evBin, decT, stS_guard, reduceCtorEq, Option.map_none, opS_pick, opS_indexAddr, natOf_pos, Int.reduceToNat, ty_slice26]; (with_reducible refine hK _ ?_))
        refine WpA_cond rfl (fun _ => ?_) (fun h => by simp at h <;> omega)
        (refine WpA_sreg [] [] (by simp) fun K hK => ?_; simp (disch := omega) only [kc, prep1, ofConst, Value.oneCell']; (with_reducible refine hK _ ?_))
        (refine WpA_ret ⟨.inr rfl, ret_now rfl ?_ rfl⟩; simp (disch := omega) only [resA, Tryz.results46, resL, resOne, List.getElem?_cons_succ, List.getElem?_cons_zero, Option.bind_some, tvPair, Option.map_some, fiN])
      by_cases c2 : 16 < r.length
      · (refine WpA_sreg [] [] (by simp) fun K hK => ?_; simp (disch := omega) only [kc, prep1, Nat.reduceAdd, opS_len, effR, ty_slice29, ls_len, effM, ofConst, Value.oneCell', evBin, decF, stS_guard, ifT, decT, opS_pick, reduceCtorEq, Option.map_none, opS_indexAddr, natOf_pos, Int.reduceToNat, ty_slice26]; (with_reducible refine hK _ ?_))
        refine WpA_cond rfl (fun _ => ?_) (fun h => by simp at h <;> omega)
        (refine WpA_sreg [] [] (by simp) fun K hK => ?_; simp (disch := omega) only [kc, prep1, ofConst, Value.oneCell']; (with_reducible refine hK _ ?_))
        (refine WpA_ret ⟨.inr rfl, ret_now rfl ?_ rfl⟩; simp (disch := omega) only [resA, Tryz.results46, resL, resOne, List.getElem?_cons_succ, List.getElem?_cons_zero, Option.bind_some, tvPair, Option.map_some, fiN])
      by_cases c3 : r.length = (M.headD []).length
      · (refine WpA_sreg [] [] (by simp) fun K hK => ?_; simp (disch := omega) only [kc, prep1, Nat.reduceAdd, opS_len, effR, ty_slice29, ls_len, effM, ofConst, Value.oneCell', evBin, decF, stS_guard, ifT, opS_pick, opS_indexAddr, natOf_pos, Int.reduceToNat, ty_slice26, ls_get, h0, fR, ty_sz29, packT, ty_agg29, decT]; (with_reducible refine hK _ ?_))
        refine WpA_cond rfl (fun h => by simp at h <;> omega) (fun _ => WpA_skip ?_)
        show WpA _ _ _ _
        ((refine WpA_lreg [] [] (by simp) fun K hK => ?_); simp (disch := omega) only [kc, prep1, effM, ofConst, Value.oneCell', evBin, wrapI]; (with_reducible refine hK _ ?_))
        refine ⟨⟨i + 1, by omega, fun r' hr' => ?_⟩, by simp only; omega, Weak_sub trivial ?_⟩
        · rw [List.take_add_one, hr] at hr'
          rcases List.mem_append.1 hr' with h | h
          · exact ok r' h
          · have : r' = r := by simpa using h
            subst this
            exact ⟨by omega, by omega, c3⟩
        · simp [wkL, okTV, okAV]
      · (refine WpA_sreg [] [] (by simp) fun K hK => ?_; simp (disch := omega) only [kc, prep1, Nat.reduceAdd, opS_len, effR, ty_slice29, ls_len, effM, ofConst, Value.oneCell', evBin, decF, stS_guard, ifT, opS_pick, opS_indexAddr, natOf_pos, Int.reduceToNat, ty_slice26, ls_get, h0, fR, ty_sz29, packT, ty_agg29, Bool.not_false]; (with_reducible refine hK _ ?_))
        refine WpA_cond rfl (fun _ => ?_) (fun h => by simp at h <;> omega)
        (refine WpA_sreg [] [] (by simp) fun K hK => ?_; simp (disch := omega) only [kc, prep1, ofConst, Value.oneCell']; (with_reducible refine hK _ ?_))
        (refine WpA_ret ⟨.inr rfl, ret_now rfl ?_ rfl⟩; simp (disch := omega) only [resA, Tryz.results46, resL, resOne, List.getElem?_cons_succ, List.getElem?_cons_zero, Option.bind_some, tvPair, Option.map_some, fiN])
    · exact absurd ⟨by omega, by omega, fun r hr => ok r (by rw [List.take_of_length_le (by omega)]; exact hr)⟩ hM
set_option maxRecDepth 100000 in
set_option maxHeartbeats 4000000 in
theorem Of_C (n c : Nat) (f : Nat → Nat → Int) (hn1 : 1 ≤ n) (hn : n ≤ 16) (hc1 : 1 ≤ c) (hc : c ≤ 16) (hf : ∀ i j, i < n → j < c → -9223372036854775808 ≤ f i j ∧ f i j ≤ 9223372036854775807) :
    CallC Tryz.prog 28 [slI (mat n c f)] ⟨[], slM (mat n c f)⟩ := by
  have hF := FromInts_C n c f hn1 hn hc1 hc hf
  refine callC_of Tryz.func28 rfl (by kernel_rfl) ?_; rw [Tryz.ntmps28]
  (refine WpA_sreg [] [] (by simp) fun K hK => ?_; simp (disch := omega) only [kc, prep1, slI, List.replicate, ofConst, Value.oneCell']; (with_reducible refine hK _ ?_))
  (refine WpA_sreg [⟨1, _, _, _, hF⟩] [] (by simp) fun K hK => ?_; simp (disch := omega) only [kc, slI, fiY, CItem.a, prep1, Nat.reduceAdd, opS_call, newS, effA, List.find?_cons, evAll, norm, CallRes.plain, rawTV, rawAV, normOk, noRefTV, noRefAV, renTV, renAV, opS_extract, effM]; (with_reducible refine hK _ ?_))
  (refine WpA_sreg [] [] (by simp) fun K hK => ?_; simp (disch := omega) only [kc, prep1]; (with_reducible refine hK _ ?_))
  (refine WpA_ret ⟨.inr rfl, ret_now rfl ?_ rfl⟩; simp (disch := omega) only [resA, Tryz.results28, resOne, List.getElem?_cons_succ, List.getElem?_cons_zero, slM])
end Go.Proofs.YtobnpabndpmabaaGreat
namespace Go.Proofs.YtobnpabndpmabaaGreat
open Go.RowKit
abbrev slN (l : List Nat) : TV := .one (.p (.sl (ls fN l)))
set_option maxRecDepth 100000 in
set_option maxHeartbeats 4000000 in
theorem first_C (k more : Nat) (hk : k ≤ 16) (hm : more ≤ 16) : CallC Tryz.prog 142 [.raw (.int .i64 (k : Int)), .raw (.int .i64 (more : Int))] ⟨[], slN (List.range k ++ [more])⟩ := by
  refine callC_of Tryz.func142 rfl (by kernel_rfl) ?_; rw [Tryz.ntmps142]
  (refine WpA_sreg [] [] (by simp) fun K hK => ?_; simp (disch := omega) only [kc, prep1, Nat.reduceAdd, List.replicate, ofConst, Value.oneCell']; (with_reducible refine hK _ ?_))
  (refine WpA_sreg [] [] (by simp) fun K hK => ?_; simp (disch := omega) only [kc, prep1, ofConst, Value.oneCell']; (with_reducible refine hK _ ?_))
  (refine WpA_seq (WpA_sreg [] [] (by simp) fun K hK => ?_); simp (disch := omega) only [kc, prep1, ofConst, Value.oneCell']; (with_reducible refine hK _ ?_))
  refine WpA_forb (G := FiG k) (fun g => ⟨[.raw (.int .i64 (k : Int)), .raw (.int .i64 (more : Int)), jk, jk, .raw (.slice none 0 0), .one (.sl 15 0 0 g.i), .raw (.int .i64 (g.i : Int)), jk, jk, jk, jk, jk, jk, jk, jk, jk, jk, jk, jk, jk], Hm [(15, [⟨3, 1, lc fN (List.range g.i)⟩])]⟩) (fun g => k - g.i) ⟨0, by omega⟩ ?_ ?_
  · refine (Weak_nil (k := 5) (d := 15) 3 1 (by omega) rfl rfl).trans (Weak_sub ⟨rfl, trivial⟩ ?_)
    simp [wkL, okTV, okAV]
  · rintro ⟨i, hi⟩
    simp only
    by_cases hm : i < k
    · (refine WpA_seq (WpA_sreg [] [] (by simp) fun K hK => ?_); simp (disch := omega) only [kc, prep1, Nat.reduceAdd, Hm, effM, evBin, decT]; (with_reducible refine hK _ ?_))
      refine WpA_cond rfl (fun _ => WpA_skip ?_) (fun h => by simp at h <;> omega)
      refine WpA_seq (WpA_block ?_)
      ((refine WpA_lreg [] [] (by simp) fun K hK => ?_); simp (disch := omega) only [kc, prep1, Nat.reduceAdd, opS_buildSlice, newS, effA, ty_slice138, ty_zero3, ty_sz3, litA, cellsOf, isPure, Nat.reduceMul, Nat.reduceLeDiff, List.contains_nil, unP, ifT, opS_append, appS, effD, newsOf, ty_by3, lc_allp, lc_len, List.length_range, allcons, allnil, and_true, killO, lc_kill, lcN_snoc, wrS, killTV, killAV]; (with_reducible refine hK _ ?_))
      show WpA _ _ _ _
      ((refine WpA_lreg [] [] (by simp) fun K hK => ?_); simp (disch := omega) only [kc, prep1, Nat.reduceAdd, effM, ofConst, Value.oneCell', evBin, wrapI]; (with_reducible refine hK _ ?_))
      refine ⟨⟨i + 1, by omega⟩, by simp only; omega, Weak_sub ⟨?_, trivial⟩ ?_⟩
      · rw [List.range_succ]; rfl
      · simp [wkL, okTV, okAV]
    · have hik : i = k := by omega
      subst hik
      (refine WpA_seq (WpA_sreg [] [] (by simp) fun K hK => ?_); simp (disch := omega) only [kc, prep1, Nat.reduceAdd, Hm, effM, evBin, decF]; (with_reducible refine hK _ ?_))
      refine WpA_cond rfl (fun h => by simp at h <;> omega) (fun _ => WpA_exit ?_)
      show WpA _ _ _ _
      (refine WpA_sreg [] [] (by simp) fun K hK => ?_; simp (disch := omega) only [kc, prep1, Nat.reduceAdd, opS_buildSlice, newS, effA, ty_slice138, ty_zero3, ty_sz3, litA, cellsOf, isPure, Nat.reduceMul, Nat.reduceLeDiff, List.contains_nil, unP, ifT, opS_append, appS, effD, newsOf, ty_by3, lc_allp, lc_len, List.length_range, allcons, allnil, and_true, killO, lc_kill, lcN_snoc, wrS, killTV, killAV]; (with_reducible refine hK _ ?_))
      refine WpA_ret ⟨.inr rfl, ret_fz 15 (fzOk_one rfl) ?_ rfl⟩
      have eT : List.take (i + 1) (List.range i ++ [more]) = List.range i ++ [more] := List.take_of_length_le (by simp)
      simp (disch := omega) only [kc, resA, Tryz.results142, resOne, fzTV, fzAV, updH, ifT, lc_take, eT, lc_cellF, slN]
structure SeG (n : Nat) where
  i : Nat
  hi : i ≤ n
theorem lcZ_snoc (l : List Int) (v : Int) : lc fZ l ++ [[.p (.raw (.bool (decide (v < 0)))), .p (.sl (ls fU (limbs v.natAbs)))]] = lc fZ (l ++ [v]) := by simp [lc, fZ]
theorem lcR_snoc (M : List (List Int)) (r : List Int) : lc (fR fZ) M ++ [[.p (.sl (ls fZ r))]] = lc (fR fZ) (M ++ [r]) := by simp [lc, fR]
theorem take_snoc {α β : Type} {l : List α} {i : Nat} {x : α} (g : α → β) (h : l[i]? = some x) : (l.take i).map g ++ [g x] = (l.take (i + 1)).map g := by
  rw [List.take_add_one, h]; simp
set_option maxRecDepth 100000 in
set_option maxHeartbeats 4000000 in
theorem Select_C (n c : Nat) (f : Nat → Nat → Int) (rs cs : List Nat) (hn : n ≤ 16) (hc : c ≤ 16) (hr : ∀ x ∈ rs, x < n) (hs : ∀ x ∈ cs, x < c) (lr : rs.length ≤ 17) (lcs : cs.length ≤ 17) :
    CallC Tryz.prog 141 [slM (mat n c f), slN rs, slN cs] ⟨[], slM (rs.map fun i => cs.map (f i))⟩ := by
  have hml := mat_len n c f
  refine callC_of Tryz.func141 rfl (by kernel_rfl) ?_; rw [Tryz.ntmps141]
  (refine WpA_sreg [] [] (by simp) fun K hK => ?_; simp (disch := omega) only [kc, prep1, slM, slN, Nat.reduceAdd, List.replicate, ofConst, Value.oneCell']; (with_reducible refine hK _ ?_))
  (refine WpA_sreg [] [] (by simp) fun K hK => ?_; simp (disch := omega) only [kc, prep1, ofConst, Value.oneCell']; (with_reducible refine hK _ ?_))
  (refine WpA_seq (WpA_sreg [] [] (by simp) fun K hK => ?_); simp (disch := omega) only [kc, prep1, Nat.reduceAdd, opS_len, effR, ty_slice138, ls_len, ofConst, Value.oneCell']; (with_reducible refine hK _ ?_))
  refine WpA_forb (G := SeG rs.length) (fun g => ⟨[slM (mat n c f), slN rs, slN cs, jk, jk, jk, .raw (.slice none 0 0), .one (.sl 39 0 0 g.i), jk, jk, jk, jk, jk, slN rs, .raw (.int .i64 (rs.length : Int)), .raw (.int .i64 (g.i : Int)), jk, jk, jk, jk, jk, jk, jk, jk, jk, jk, jk, jk, jk, jk, jk, jk, jk, jk, jk, jk, jk, jk, jk, jk, jk, jk], Hm [(39, [⟨122, 1, lc (fR fZ) ((rs.take g.i).map fun i => cs.map (f i))⟩])]⟩) (fun g => rs.length - g.i) ⟨0, by omega⟩ ?_ ?_
  · refine (Weak_nil (k := 7) (d := 39) 122 1 (by omega) rfl rfl).trans (Weak_sub ⟨rfl, trivial⟩ ?_)
    simp [wkL, okTV, okAV]
  · rintro ⟨i, hi⟩
    simp only
    by_cases hm : i < rs.length
    · obtain ⟨r, hri⟩ := getElem?_of_lt hm
      have hrn := hr r (List.mem_of_getElem? hri)
      have hrow := mat_get c f hrn
      (refine WpA_sreg [] [] (by simp) fun K hK => ?_; simp (disch := omega) only [kc, prep1, slM, slN, Hm, effM, evBin, decT]; (with_reducible refine hK _ ?_))
      refine WpA_seq (WpA_cond rfl (fun _ => WpA_skip ?_) (fun h => by simp at h <;> omega))
      refine WpA_seq (WpA_block ?_)
      (refine WpA_sreg [] [] (by simp) fun K hK => ?_; simp (disch := omega) only [kc, prep1, Nat.reduceAdd, opS_indexAddr, effR, natOf_pos, ty_slice138, ls_get, hri, fN, ty_sz3, packT, ty_agg3]; (with_reducible refine hK _ ?_))
      (refine WpA_sreg [] [] (by simp) fun K hK => ?_; simp (disch := omega) only [kc, prep1, ofConst, Value.oneCell']; (with_reducible refine hK _ ?_))
      (refine WpA_seq (WpA_sreg [] [] (by simp) fun K hK => ?_); simp (disch := omega) only [kc, prep1, Nat.reduceAdd, opS_len, effR, ty_slice138, ls_len, ofConst, Value.oneCell']; (with_reducible refine hK _ ?_))
      refine WpA_forb (G := SeG cs.length) (fun g => ⟨[slM (mat n c f), slN rs, slN cs, jk, jk, jk, .raw (.slice none 0 0), .one (.sl 39 0 0 i), jk, .raw (.int .i64 (r : Int)), .one (.sl 34 0 0 g.i), jk, jk, slN rs, .raw (.int .i64 (rs.length : Int)), .raw (.int .i64 (i : Int)), jk, jk, jk, slN cs, .raw (.int .i64 (cs.length : Int)), .raw (.int .i64 (g.i : Int)), jk, jk, jk, jk, jk, jk, jk, jk, jk, jk, jk, jk, jk, jk, jk, jk, jk, jk, jk, jk], Hm [(39, [⟨122, 1, lc (fR fZ) ((rs.take i).map fun i => cs.map (f i))⟩]), (34, [⟨79, 2, lc fZ ((cs.take g.i).map (f r))⟩])]⟩) (fun g => cs.length - g.i) ⟨0, by omega⟩ ?_ ?_
      · refine (Weak_nil (k := 10) (d := 34) 79 2 (by omega) rfl rfl).trans (Weak_sub ⟨rfl, rfl, trivial⟩ ?_)
        simp [wkL, okTV, okAV]
      · rintro ⟨j, hj⟩
        simp only
        by_cases hm2 : j < cs.length
        · obtain ⟨s, hsj⟩ := getElem?_of_lt hm2
          have hsc := hs s (List.mem_of_getElem? hsj)
          have hent := rowF_get (f r) hsc
          have eL : ((cs.take j).map (f r)).length = j := by simp; omega
          (refine WpA_sreg [] [] (by simp) fun K hK => ?_; simp (disch := omega) only [kc, prep1, slM, slN, Hm, effM, evBin, decT]; (with_reducible refine hK _ ?_))
          refine WpA_seq (WpA_cond rfl (fun _ => WpA_skip ?_) (fun h => by simp at h <;> omega))
          refine WpA_seq (WpA_block ?_)
          (refine WpA_sreg [] [] (by simp) fun K hK => ?_; simp (disch := omega) only [kc, prep1, Nat.reduceAdd, opS_indexAddr, effR, natOf_pos, ty_slice138, ls_get, hsj, fN, ty_sz3, packT, ty_agg3]; (with_reducible refine hK _ ?_))
          ((refine WpA_lreg [] [] (by simp) fun K hK => ?_); simp (disch := omega) only [kc, prep1, Nat.reduceAdd, opS_indexAddr, effR, natOf_pos, ty_slice50, ls_get, hrow, fR, ty_sz122, packT, ty_agg122, ty_slice122, hent, fZ, ty_sz79, ty_agg79, Nat.le_refl, opS_buildSlice, newS, effA, ty_zero79, litA, cellsOf, isPure, Nat.reduceMul, Nat.reduceLeDiff, List.contains_nil, unP, ifT, opS_append, appS, effD, newsOf, Nat.reduceEqDiff, ty_by79, lc_allp, lc_len, eL, allcons, allnil, and_true, killO, lc_kill, lcZ_snoc, take_snoc (f r) hsj, wrS, killTV, killAV, Nat.reduceBEq]; (with_reducible refine hK _ ?_))
          show WpA _ _ _ _
          ((refine WpA_lreg [] [] (by simp) fun K hK => ?_); simp (disch := omega) only [kc, prep1, effM, ofConst, Value.oneCell', evBin, wrapI]; (with_reducible refine hK _ ?_))
          refine ⟨⟨j + 1, by omega⟩, by simp only; omega, Weak_sub ⟨rfl, rfl, trivial⟩ ?_⟩
          simp [wkL, okTV, okAV]
        · have hjc : j = cs.length := by omega
          subst hjc
          (refine WpA_sreg [] [] (by simp) fun K hK => ?_; simp (disch := omega) only [kc, prep1, slM, slN, Hm, effM, evBin, decF]; (with_reducible refine hK _ ?_))
          refine WpA_seq (WpA_cond rfl (fun h => by simp at h <;> omega) (fun _ => WpA_exit ?_))
          show WpA _ _ _ _
          refine WpA.weak ((Weak_fz 34 (fzOk_one rfl)).trans (Weak_sub (tm := [slM (mat n c f), slN rs, slN cs, jk, jk, jk, .raw (.slice none 0 0), .one (.sl 39 0 0 i), jk, jk, .one (.p (.sl (ls fZ (cs.map (f r))))), jk, jk, slN rs, .raw (.int .i64 (rs.length : Int)), .raw (.int .i64 (i : Int)), jk, jk, jk, jk, jk, jk, jk, jk, jk, jk, jk, jk, jk, jk, jk, jk, jk, jk, jk, jk, jk, jk, jk, jk, jk, jk]) (l := [(39, [⟨122, 1, lc (fR fZ) ((rs.take i).map fun i => cs.map (f i))⟩])]) ⟨rfl, trivial⟩ (by simp [wkL, okTV, okAV, fzTV, fzAV, Hm, lc_take, lc_cellF, List.take_of_length_le]))) ?_
          have eL : ((rs.take i).map fun i => cs.map (f i)).length = i := by simp; omega
          have eS := take_snoc (fun i => cs.map (f i)) hri
          ((refine WpA_lreg [] [] (by simp) fun K hK => ?_); simp (disch := omega) only [kc, prep1, Nat.reduceAdd, slM, slN, Hm, opS_buildSlice, newS, effA, ty_slice50, ty_zero122, ty_sz122, litA, cellsOf, isPure, Nat.reduceMul, Nat.reduceLeDiff, List.contains_nil, unP, ifT, opS_append, appS, effD, newsOf, ty_by122, lc_allp, lc_len, eL, allcons, allnil, and_true, killO, lc_kill, lcR_snoc, eS, wrS, killTV, killAV]; (with_reducible refine hK _ ?_))
          show WpA _ _ _ _
          ((refine WpA_lreg [] [] (by simp) fun K hK => ?_); simp (disch := omega) only [kc, prep1, effM, ofConst, Value.oneCell', evBin, wrapI]; (with_reducible refine hK _ ?_))
          refine ⟨⟨i + 1, by omega⟩, by simp only; omega, Weak_sub ⟨rfl, trivial⟩ ?_⟩
          simp [wkL, okTV, okAV]
    · have hin : i = rs.length := by omega
      subst hin
      (refine WpA_sreg [] [] (by simp) fun K hK => ?_; simp (disch := omega) only [kc, prep1, slM, slN, Hm, effM, evBin, decF]; (with_reducible refine hK _ ?_))
      refine WpA_seq (WpA_cond rfl (fun h => by simp at h <;> omega) (fun _ => WpA_exit ?_))
      show WpA _ _ _ _
      (refine WpA_sreg [] [] (by simp) fun K hK => ?_; simp (disch := omega) only [kc, prep1]; (with_reducible refine hK _ ?_))
      refine WpA_ret ⟨.inr rfl, ret_fz 39 (fzOk_one rfl) ?_ rfl⟩
      have eT : List.take rs.length (List.map (fun i => cs.map (f i)) rs) = rs.map fun i => cs.map (f i) := List.take_of_length_le (by simp)
      simp (disch := omega) only [kc, resA, Tryz.results141, resOne, List.take_length, fzTV, fzAV, ifT, lc_take, eT, lc_cellF, slM]
end Go.Proofs.YtobnpabndpmabaaGreat
namespace Go.Proofs.YtobnpabndpmabaaGreat
open Go.RowKit
abbrev nilC : List AV := [.raw (.slice none 0 0)]
theorem mid_get {α : Type} {A : List α} {x : α} {l : List α} {i : Nat} (h : A.length = i) : (A ++ x :: l)[i]? = some x := by
  rw [List.getElem?_append_right (by omega), h, Nat.sub_self]; rfl
theorem mid_set {α : Type} {A : List α} {x y : α} {l : List α} {i : Nat} (h : A.length = i) : (A ++ x :: l).set i y = A ++ y :: l := by
  rw [List.set_append_right _ _ (by omega), h, Nat.sub_self]; rfl
theorem rwO_kill (k : Nat → Nat → Bool) (R : List (List Int)) : (R.map rwO).map (killO k) = R.map rwO := by
  rw [List.map_map]
  exact List.map_congr_left fun r _ => by simp [killO, rwO, lc_kill]
theorem spn_kill (d i c : Nat) : (spn d (List.replicate i c)).map (List.map (killAV fun x y => x == d && y == i + 1)) = spn d (List.replicate i c) := by
  apply List.ext_getElem?
  intro k
  rw [List.getElem?_map]
  by_cases h : k < i
  · rw [spn_get d c h]
    have : k ≠ i := by omega
    simp [killAV, this]
  · rw [List.getElem?_eq_none (by rw [spn_len, List.length_replicate]; omega)]; rfl
def cpO (d n c : Nat) (f : Nat → Nat → Int) (i : Nat) : List OObj := ⟨122, 1, spn d (List.replicate i c) ++ List.replicate (n - i) nilC⟩ :: (mat i c f).map rwO
def cpI (d n c : Nat) (f : Nat → Nat → Int) (i j : Nat) : List OObj := ⟨122, 1, spn d (List.replicate i c) ++ [.sl d (i + 1) 0 (j + 1)] :: List.replicate (n - i - 1) nilC⟩ :: ((mat i c f).map rwO ++ [rwO (rowF (j + 1) (f i))])
def cpS (d n c : Nat) (f : Nat → Nat → Int) (i : Nat) : Nat → List OObj
  | 0 => cpO d n c f i
  | j + 1 => cpI d n c f i j
theorem mat_snoc (i c : Nat) (f : Nat → Nat → Int) : mat (i + 1) c f = mat i c f ++ [rowF c (f i)] := by simp [mat, List.range_succ]
theorem rowF_snoc (j : Nat) (g : Nat → Int) : rowF (j + 1) g = rowF j g ++ [g j] := by simp [rowF, List.range_succ]
theorem cp_row {d n c i : Nat} (f : Nat → Nat → Int) (hc : 1 ≤ c) (hi : i < n) : cpS d n c f i c = cpO d n c f (i + 1) := by
  obtain ⟨j, rfl⟩ : ∃ j, c = j + 1 := ⟨c - 1, by omega⟩
  show cpI d n (j + 1) f i j = _
  unfold cpI cpO
  rw [mat_snoc, List.replicate_succ' (n := i), spn_snoc, List.length_replicate]
  simp [Nat.sub_sub]
theorem cp_end (d n c : Nat) (f : Nat → Nat → Int) : cpO d n c f n = mxF d n c f := by
  unfold cpO; simp
theorem cp_open {d n c i : Nat} (f : Nat → Nat → Int) (hi : i < n) : cpO d n c f i = ⟨122, 1, spn d (List.replicate i c) ++ nilC :: List.replicate (n - i - 1) nilC⟩ :: (mat i c f).map rwO := by
  unfold cpO
  rw [show n - i = n - i - 1 + 1 by omega, List.replicate_succ]; rfl
set_option maxRecDepth 100000 in
set_option maxHeartbeats 4000000 in
theorem Copy_C (n c : Nat) (f : Nat → Nat → Int) (hn : n ≤ 17) (hc1 : 1 ≤ c) (hc : c ≤ 17) (hf : ∀ i j, i < n → j < c → Bg (f i j)) :
    CallC Tryz.prog 59 [slM (mat n c f)] ⟨mxF 0 n c f, .one (.sl 0 0 0 n)⟩ := by
  have hml := mat_len n c f
  refine callC_of Tryz.func59 rfl (by kernel_rfl) ?_; rw [Tryz.ntmps59]
  (refine WpA_sreg [] [] (by simp) fun K hK => ?_; simp (disch := omega) only [kc, prep1, slM, List.replicate, ofConst, Value.oneCell']; (with_reducible refine hK _ ?_))
  (refine WpA_sreg [] [] (by simp) fun K hK => ?_; simp (disch := omega) only [kc, prep1, Nat.reduceAdd, opS_len, effR, ty_slice50, ls_len, hml, opS_makeSlice, newS, effA, ty_zero122, ty_sz122, ty_by122, Int.natCast_nonneg, Value.oneCell', and_true, ifT]; (with_reducible refine hK _ ?_))
  (refine WpA_seq (WpA_sreg [] [] (by simp) fun K hK => ?_); simp (disch := omega) only [kc, prep1, Nat.reduceAdd, opS_len, effR, ty_slice50, ls_len, hml, ofConst, Value.oneCell']; (with_reducible refine hK _ ?_))
  refine WpA_forb (G := FiG n) (fun g => ⟨[slM (mat n c f), jk, .raw (.slice none 0 0), .one (.sl 9 0 0 n), jk, jk, jk, jk, jk, jk, jk, .raw (.int .i64 (n : Int)), .raw (.int .i64 (g.i : Int)), jk, jk, jk, jk, jk, jk, jk, jk, jk, jk, jk, jk, jk, jk, jk, jk, jk, jk, jk, jk, jk, jk, jk, jk, jk], Hm [(9, cpO 9 n c f g.i)]⟩) (fun g => n - g.i) ⟨0, by omega⟩ ?_ ?_
  · refine Weak_sub ⟨?_, trivial⟩ ?_
    · show [_] = _
      simp [cpO, spn, mat]
    · simp [wkL, okTV, okAV]
  · rintro ⟨i, hi⟩
    simp only
    by_cases hm : i < n
    · have hrow := mat_get c f hm
      have hmi := mat_len i c f
      have hsl : (spn 9 (List.replicate i c)).length = i := by rw [spn_len, List.length_replicate]
      have hrl : ((mat i c f).map rwO).length = i := by rw [List.length_map, hmi]
      (refine WpA_sreg [] [] (by simp) fun K hK => ?_; simp (disch := omega) only [kc, prep1, slM, Hm, effM, evBin, decT]; (with_reducible refine hK _ ?_))
      refine WpA_seq (WpA_cond rfl (fun _ => WpA_skip ?_) (fun h => by simp at h <;> omega))
      refine WpA_seq (WpA_block ?_)
      (refine WpA_sreg [] [] (by simp) fun K hK => ?_; simp (disch := omega) only [kc, prep1]; (with_reducible refine hK _ ?_))
      (refine WpA_sreg [] [] (by simp) fun K hK => ?_; simp (disch := omega) only [kc, prep1, Nat.reduceAdd, opS_indexAddr, effR, natOf_pos, ty_slice50, ls_get, hrow, fR, ty_sz122, packT, ty_agg122, opS_len, ty_slice122, ls_len, rowF_len, ofConst, Value.oneCell']; (with_reducible refine hK _ ?_))
      refine WpA_forb (G := FiG c) (fun g => ⟨[slM (mat n c f), jk, .raw (.slice none 0 0), .one (.sl 9 0 0 n), .raw (.int .i64 (i : Int)), jk, jk, jk, jk, jk, jk, .raw (.int .i64 (n : Int)), .raw (.int .i64 (i : Int)), jk, jk, jk, jk, jk, .one (.p (.sl (ls fZ (rowF c (f i))))), .raw (.int .i64 (c : Int)), .raw (.int .i64 (g.i : Int)), jk, jk, jk, jk, jk, jk, jk, jk, jk, jk, jk, jk, jk, jk, jk, jk, jk], Hm [(9, cpS 9 n c f i g.i)]⟩) (fun g => c - g.i) ⟨0, by omega⟩ ?_ ?_
      · refine Weak_sub ⟨rfl, trivial⟩ ?_
        simp [wkL, okTV, okAV]
      · rintro ⟨j, hj⟩
        simp only
        by_cases hm2 : j < c
        · have hent := rowF_get (f i) hm2
          have hN := norm_C (f i j) (hf i j hm hm2)
          cases j with
          | zero =>
            rw [cpS, cp_open f hm]
            (refine WpA_sreg [] [] (by simp) fun K hK => ?_; simp (disch := omega) only [kc, prep1, slM, Hm, effM, evBin, decT]; (with_reducible refine hK _ ?_))
            refine WpA_seq (WpA_cond rfl (fun _ => WpA_skip ?_) (fun h => by simp at h <;> omega))
            refine WpA_seq (WpA_block ?_)
            (refine WpA_sreg [] [] (by simp) fun K hK => ?_; simp (disch := omega) only [kc, prep1, Nat.reduceAdd, opS_indexAddr, effR, natOf_pos, ty_slice122, ls_get, hent, fZ, ty_sz79, packT, ty_agg79, Nat.le_refl, opS_alloc, newS, effA, ty_zero79, Value.oneCell', ifT, Nat.reduceEqDiff, opS_store, wrS, effD, updH, cellsOf, isPure, putCells, killTV, killAV]; (with_reducible refine hK _ ?_))
            ((refine WpA_ldraw mixedA [⟨7, _, _, _, hN⟩] [] (by kernel_rfl) (by simp) fun K hK => ?_); simp (disch := omega) only [kc, tZ, CItem.a, prep1, Nat.reduceAdd, opS_indexAddr, effR, natOf_pos, ty_slice50, updH, Nat.reduceEqDiff, ifF, ty_sz122, ifT, mid_get hsl, packT, ty_agg122, ty_sz79, ty_agg79, Nat.le_refl, opS_call, newS, effA, List.find?_cons, evAll, norm, CallRes.plain, rawTV, rawAV, normOk, isPure, noRefTV, noRefAV, renTV, renAV, opS_buildSlice, ty_slice122, ty_zero79, litA, cellsOf, Nat.reduceMul, Nat.reduceLeDiff, List.contains_nil, unP, opS_append, appS, effD, newsOf, ty_by79, allcons, allnil, and_true, opS_store, wrS, putCells, mid_set hsl, List.length_map, hmi, killTV, killAV, Nat.reduceBEq]; (with_reducible refine hK _ ?_))
            show WpA _ _ _ _
            ((refine WpA_lreg [] [] (by simp) fun K hK => ?_); simp (disch := omega) only [kc, prep1, effM, ofConst, Value.oneCell', evBin, wrapI]; (with_reducible refine hK _ ?_))
            refine ⟨⟨1, by omega⟩, by simp only; omega, Weak_sub ⟨?_, trivial⟩ ?_⟩
            · rfl
            · simp [wkL, okTV, okAV]
          | succ j =>
            have h01 : (0 == i + 1) = false := by simp
            rw [cpS, cpI]
            (refine WpA_sreg [] [] (by simp) fun K hK => ?_; simp (disch := omega) only [kc, prep1, slM, Hm, effM, evBin, decT]; (with_reducible refine hK _ ?_))
            refine WpA_seq (WpA_cond rfl (fun _ => WpA_skip ?_) (fun h => by simp at h <;> omega))
            refine WpA_seq (WpA_block ?_)
            (refine WpA_sreg [] [] (by simp) fun K hK => ?_; simp (disch := omega) only [kc, prep1, Nat.reduceAdd, opS_indexAddr, effR, natOf_pos, ty_slice122, ls_get, hent, fZ, ty_sz79, packT, ty_agg79, Nat.le_refl, opS_alloc, newS, effA, ty_zero79, Value.oneCell', ifT, Nat.reduceEqDiff, opS_store, wrS, effD, updH, cellsOf, isPure, putCells, killTV, killAV]; (with_reducible refine hK _ ?_))
            ((refine WpA_ldraw mixedA [⟨7, _, _, _, hN⟩] [] (by kernel_rfl) (by simp) fun K hK => ?_); simp (disch := omega) only [kc, tZ, CItem.a, prep1, Nat.reduceAdd, rwO, opS_indexAddr, effR, natOf_pos, ty_slice50, updH, Nat.reduceEqDiff, ifF, ty_sz122, ifT, mid_get hsl, packT, ty_agg122, ty_sz79, ty_agg79, Nat.le_refl, opS_call, newS, effA, List.find?_cons, evAll, norm, CallRes.plain, rawTV, rawAV, normOk, isPure, noRefTV, noRefAV, renTV, renAV, opS_buildSlice, ty_slice122, ty_zero79, litA, cellsOf, Nat.reduceMul, Nat.reduceLeDiff, List.contains_nil, unP, opS_append, appS, effD, newsOf, mid_get hrl, ty_by79, lc_allp, lc_len, rowF_len, allcons, allnil, and_true, killO, List.map_append, spn_kill, killAV, List.map_replicate, rwO_kill, lc_kill, lcZ_snoc, mid_set hrl, wrS, killTV, h01, Nat.reduceBEq, opS_store, putCells, mid_set hsl, reduceCtorEq, false_and, List.length_append, hrl]; (with_reducible refine hK _ ?_))
            show WpA _ _ _ _
            ((refine WpA_lreg [] [] (by simp) fun K hK => ?_); simp (disch := omega) only [kc, prep1, effM, ofConst, Value.oneCell', evBin, wrapI]; (with_reducible refine hK _ ?_))
            refine ⟨⟨j + 1 + 1, by omega⟩, by simp only; omega, Weak_sub ⟨?_, trivial⟩ ?_⟩
            · show _ = cpI 9 n c f i (j + 1)
              rw [cpI, rwO, rowF_snoc (j + 1)]; rfl
            · simp [wkL, okTV, okAV]
        · have hjc : j = c := by omega
          subst hjc
          (refine WpA_sreg [] [] (by simp) fun K hK => ?_; simp (disch := omega) only [kc, prep1, slM, Hm, effM, evBin, decF]; (with_reducible refine hK _ ?_))
          refine WpA_seq (WpA_cond rfl (fun h => by simp at h <;> omega) (fun _ => WpA_exit ?_))
          show WpA _ _ _ _
          rw [cp_row f hc1 hm]
          ((refine WpA_lreg [] [] (by simp) fun K hK => ?_); simp (disch := omega) only [kc, prep1, effM, ofConst, Value.oneCell', evBin, wrapI]; (with_reducible refine hK _ ?_))
          refine ⟨⟨i + 1, by omega⟩, by simp only; omega, Weak_sub ⟨rfl, trivial⟩ ?_⟩
          simp [wkL, okTV, okAV]
    · have hin : i = n := by omega
      subst hin
      (refine WpA_sreg [] [] (by simp) fun K hK => ?_; simp (disch := omega) only [kc, prep1, slM, Hm, effM, evBin, decF]; (with_reducible refine hK _ ?_))
      refine WpA_seq (WpA_cond rfl (fun h => by simp at h <;> omega) (fun _ => WpA_exit ?_))
      show WpA _ _ _ _
      rw [cp_end]
      (refine WpA_sreg [] [] (by simp) fun K hK => ?_; simp (disch := omega) only [kc, prep1]; (with_reducible refine hK _ ?_))
      refine WpA_ret ⟨.inr rfl, _, Weak.refl _, ?_⟩
      refine ⟨.one (.sl 9 0 0 i), 9, ?_, rfl, ?_, rfl⟩
      · simp (disch := omega) only [resA, Tryz.results59, resOne, List.getElem?_cons_succ, List.getElem?_cons_zero]
      · exact (mxF_ren 9 0 _ _ _).symm
end Go.Proofs.YtobnpabndpmabaaGreat
