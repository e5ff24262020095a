/-
  Part 16 of a proof (walks and plain facts).
-/
import Derived.Test.YtennjcjjegbhgaaGreatP14
import Derived.Shelf.SlSortCmp.WholeK
import Derived.Ground.SlsfProg
import Derived.Test.YtennjcjjegbhgaaGreatProg
import Derived.Deep.RegionHeld3
import Derived.Deep.RegionLaw
set_option linter.all false
namespace Go.Proofs.YtennjcjjegbhgaaGreat
open Go.RowKit
theorem WpT_cut {P : Program} {b : Nat} {ty : TypeId} {c z : Code} {Q : Exit → AS → List PV → Prop} {s S : AS} {cs cs1 : List PV} (h1 : WpT P b ty c (thenT (fun s' k => Weak s' S ∧ k = cs1) Q) s cs) (h2 : WpT P b ty z Q S cs1) : WpT P b ty c (thenT (WpT P b ty z Q) Q) s cs := h1.mono fun e s' k h => by
  cases e with
  | normal =>
    obtain ⟨g1, rfl⟩ := h
    exact WpT.weak g1 h2
  | _ => exact h
def rawG (kind : Nat) (L : List Int) (n : Nat) : (Nat → Nat → Int) × Nat :=
  if kind % 8 < 4 then itI L (dgF L 0 6, adv L 0 n) n
  else if kind % 8 = 4 then (upd (chI false n n) 0 0 (chI false n n 0 0 + (belF L 0 3 : Int)), nextAt L 0)
  else if kind % 8 = 5 then (upd (chI true n n) (n - 1) (n - 1) (chI true n n (n - 1) (n - 1) + (belF L 0 2 : Int)), nextAt L 0)
  else if kind % 8 = 6 then (dgF L 0 9, adv L 0 n)
  else (dgF L 0 1, adv L 0 n)
open Classical in
noncomputable def gramF (kind : Nat) (L : List Int) (n : Nat) : Nat → Nat → Int := if GoodP n (rawG kind L n).1 then (rawG kind L n).1 else dgF L (rawG kind L n).2 2
theorem upd_cases (f : Nat → Nat → Int) (i j : Nat) (v : Int) (a b : Nat) : upd f i j v a b = v ∨ upd f i j v a b = f a b := by
  by_cases h : a = i ∧ b = j
  · obtain ⟨rfl, rfl⟩ := h; exact .inl (upd_at f a b v)
  · exact .inr (upd_ne (by omega))
def Bd9 (f : Nat → Nat → Int) : Prop := ∀ a b, -9 ≤ f a b ∧ f a b ≤ 9
theorem Bd9.i64 {f : Nat → Nat → Int} (h : Bd9 f) (a b : Nat) : I64 (f a b) := by have := h a b; exact ⟨by omega, by omega⟩
theorem Bd9.upd {f : Nat → Nat → Int} (h : Bd9 f) {i j : Nat} {v : Int} (h1 : -9 ≤ v) (h2 : v ≤ 9) : Bd9 (Go.Proofs.YtennjcjjegbhgaaGreat.upd f i j v) := fun a b => by
  rcases upd_cases f i j v a b with e | e
  · rw [e]; exact ⟨h1, h2⟩
  · rw [e]; exact h a b
theorem dgF_bd {L : List Int} {a most : Nat} (h1 : 0 < most) (h2 : most ≤ 9) : Bd9 (dgF L a most) := fun i j => by
  unfold dgF
  split
  · have := belF_lt (n := most) L (adv L a i) h1; omega
  · omega
theorem tmod3 (x : Int) : -2 ≤ Int.tmod x 3 ∧ Int.tmod x 3 ≤ 2 := by
  have h1 := Int.tmod_lt_of_pos x (show (0 : Int) < 3 by omega)
  have h2 := Int.lt_tmod_of_pos x (show (0 : Int) < 3 by omega)
  omega
theorem itK_bd {L : List Int} {i : Nat} {s : (Nat → Nat → Int) × Nat} (h : Bd9 s.1) : ∀ k, Bd9 (itK L i s k).1
  | 0 => h
  | k + 1 => by
    have := tmod3 (L.getD (itK L i s k).2 0)
    exact ((itK_bd h k).upd (by omega) (by omega)).upd (by omega) (by omega)
theorem itI_bd {L : List Int} {s : (Nat → Nat → Int) × Nat} (h : Bd9 s.1) : ∀ i, Bd9 (itI L s i).1
  | 0 => h
  | i + 1 => itK_bd (itI_bd h i) i
theorem chI_bd (fork : Bool) (n : Nat) : ∀ i a b, -1 ≤ chI fork n i a b ∧ chI fork n i a b ≤ 2
  | 0, _, _ => by simp [chI]
  | i + 1, a, b => by
    have ih := chI_bd fork n i
    have u : ∀ (f : Nat → Nat → Int) (i j : Nat) (v : Int), (∀ a b, -1 ≤ f a b ∧ f a b ≤ 2) → -1 ≤ v ∧ v ≤ 2 → ∀ a b, -1 ≤ upd f i j v a b ∧ upd f i j v a b ≤ 2 := fun f i j v hf hv a b => by
      rcases upd_cases f i j v a b with e | e
      · rw [e]; exact hv
      · rw [e]; exact hf a b
    unfold chI
    split
    · exact u _ _ _ _ ih (by omega) a b
    · exact u _ _ _ _ (u _ _ _ _ (u _ _ _ _ ih (by omega)) (by omega)) (by omega) a b
theorem rawG_bd (kind : Nat) (L : List Int) (n : Nat) : Bd9 (rawG kind L n).1 := by
  have b3 := belF_lt (n := 3) L 0 (by omega)
  have b2 := belF_lt (n := 2) L 0 (by omega)
  have c1 := chI_bd false n n 0 0
  have c2 := chI_bd true n n (n - 1) (n - 1)
  unfold rawG
  split
  · exact itI_bd (dgF_bd (by omega) (by omega)) n
  · split
    · exact Bd9.upd (fun a b => by have := chI_bd false n n a b; omega) (by omega) (by omega)
    · split
      · exact Bd9.upd (fun a b => by have := chI_bd true n n a b; omega) (by omega) (by omega)
      · split
        · exact dgF_bd (by omega) (by omega)
        · exact dgF_bd (by omega) (by omega)
theorem rawG_le (kind : Nat) (L : List Int) (n : Nat) : (rawG kind L n).2 ≤ L.length := by
  unfold rawG
  split
  · exact itI_le (adv_le (by omega) n) n
  · split
    · exact nextAt_le (by omega)
    · split
      · exact nextAt_le (by omega)
      · split
        · exact adv_le (by omega) n
        · exact adv_le (by omega) n
abbrev tL (dim kind : Nat) (L B : List Int) : TV := .agg [.p (.raw (.int .u8 (dim : Int))), .p (.raw (.int .u8 (kind : Int))), .p (.sl (ls f8 L)), .p (.sl (ls f8 B))]
set_option maxRecDepth 100000 in
set_option maxHeartbeats 16000000 in
theorem Gram_C (dim kind : Nat) (L B : List Int) (most n : Nat) (hL : I8 L) (hdim : dim ≤ 255) (hkind : kind ≤ 255) (hm1 : 1 ≤ most) (hm8 : most ≤ 8) (hn : n = 1 + dim % most) :
    CallC Tryz.prog 40 [tL dim kind L B, .raw (.int .i64 (most : Int))] ⟨[], slI (mat n n (gramF kind L n))⟩ := by
  have hn1 : 1 ≤ n := by omega
  have hn8 : n ≤ 8 := by have := Nat.mod_lt dim (show 0 < most by omega); omega
  have e1 : Int.tmod (dim : Int) (most : Int) = ((dim % most : Nat) : Int) := (Int.ofNat_tmod dim most).symm
  have e2 : Int.tmod (kind : Int) 8 = ((kind % 8 : Nat) : Int) := (Int.ofNat_tmod kind 8).symm
  have e3 : 1 + ((dim % most : Nat) : Int) = (n : Int) := by omega
  refine callC_of Tryz.func40 rfl (by kernel_rfl) ?_; rw [Tryz.ntmps40]
  (refine WpA_sreg [] [] (by simp) fun K hK => ?_; simp (disch := omega) only [kc, prep1, tL, Nat.reduceAdd, List.replicate, opS_box, newS, effA, cellsOf, isPure, ifT, ofConst, Value.oneCell']; (with_reducible refine hK _ ?_))
  (refine WpA_sreg [] [] (by simp) fun K hK => ?_; simp (disch := omega) only [kc, prep1, Nat.reduceAdd, opS_fieldAddr, effR, ty_fld26_2, ty_sz24, updH, packT, ty_agg24, opS_build, ty_zero69, ty_plc69, Value.oneCell', fillA, cellsOf, Nat.reduceLeDiff, ifT, opS_box, newS, effA, isPure, Nat.reduceEqDiff]; (with_reducible refine hK _ ?_))
  refine WpA_lend 11 (cs := tcs L 0) rfl fun b => ?_
  refine WpT.weak (Weak_sub (tm := [jk, .raw (.int .i64 (most : Int)), .one (.ptr 2 0 0 0), jk, jk, tptr b, jk, jk, jk, jk, jk, jk, jk, jk, jk, jk, jk, jk, jk, jk, jk, jk, jk, jk, jk, jk, jk, jk, jk, jk, jk, jk, jk, jk, jk, jk, jk, jk, jk, jk, jk, jk, jk, jk, jk, jk, jk, jk, jk, jk, jk, jk, jk, jk, jk, jk, jk, jk, jk, jk, jk, jk, jk, jk, jk, jk, jk, jk, jk, jk, jk, jk, jk, jk]) (l := [(2, [⟨26, 4, [[.p (.raw (.int .u8 (dim : Int))), .p (.raw (.int .u8 (kind : Int))), .p (.sl (ls f8 L)), .p (.sl (ls f8 B))]]⟩])]) ⟨rfl, trivial⟩ (by simp [wkL, okTV, okAV, lnTV, lnAV])) ?_
  (refine WpT_sreg [] [] (by simp) fun K hK => ?_; simp (disch := omega) only [kc, prep1, Nat.reduceAdd, tptr, Hm, opS_fieldAddr, effR, ty_fld26_0, ty_sz5, Nat.add_zero, packT, ty_agg5, opS_conv, effM, Tryz.underlying5, ty_int3, wrapI, evBin, e1, ifT, ofConst, Value.oneCell', e3]; (with_reducible refine hK _ ?_))
  (refine WpT_sreg [] [] (by simp) fun K hK => ?_; simp (disch := omega) only [kc, prep1, ofConst, Value.oneCell']; (with_reducible refine hK _ ?_))
  (refine WpT_seq (WpT_sreg [] [] (by simp) fun K hK => ?_); simp (disch := omega) only [kc, prep1, Nat.reduceAdd, opS_fieldAddr, effR, ty_fld26_1, ty_sz5, packT, ty_agg5, effM, ofConst, Value.oneCell', evBin, e2, ifT]; (with_reducible refine hK _ ?_))
  have hraw := rawG_bd kind L n
  have hple := rawG_le kind L n
  refine WpT_cut (S := ⟨[jk, jk, jk, jk, jk, tptr b, .raw (.int .i64 (n : Int)), slI (mat n n (rawG kind L n).1), jk, jk, jk, jk, jk, jk, jk, jk, jk, jk, jk, jk, jk, jk, jk, jk, jk, jk, jk, jk, jk, jk, jk, jk, jk, jk, jk, jk, jk, jk, jk, jk, jk, jk, jk, jk, jk, jk, jk, jk, jk, jk, jk, jk, jk, jk, jk, jk, jk, jk, jk, jk, jk, jk, jk, jk, jk, jk, jk, jk, jk, jk, jk, jk, jk, jk], Hm []⟩) (cs1 := tcs L (rawG kind L n).2) ?_ ?_
  · have hk8 := Nat.mod_lt kind (show 0 < 8 by omega)
    have hG : kind % 8 < 4 → rawG kind L n = itI L (dgF L 0 6, adv L 0 n) n := fun h => by unfold rawG; rw [if_pos h]
    have cg := general_T b L 0 n hL (by omega) hn8
    have cha := chain_C n false hn8
    have chb := chain_C n true hn8
    have cb3 := Below_T b L 0 3 hL (by omega) (by omega) (by omega)
    have cb2 := Below_T b L 0 2 hL (by omega) (by omega) (by omega)
    have cd9 := diagonal_T b L 0 n 9 hL (by omega) hn8 (by omega) (by omega)
    have cd1 := diagonal_T b L 0 n 1 hL (by omega) hn8 (by omega) (by omega)
    rw [show ((3 : Nat) : Int) = 3 from rfl] at cb3
    rw [show ((2 : Nat) : Int) = 2 from rfl] at cb2
    rw [show ((9 : Nat) : Int) = 9 from rfl] at cd9
    rw [show ((1 : Nat) : Int) = 1 from rfl] at cd1
    have q3 := belF_lt (n := 3) L 0 (by omega)
    have q2 := belF_lt (n := 2) L 0 (by omega)
    have r1 := chI_bd false n n 0 0
    have r2 := chI_bd true n n (n - 1) (n - 1)
    have x0 : ((n : Int) - 1).toNat = n - 1 := by omega
    have x1 := spn_get (n := n) (i := 0) 35 n (by omega)
    have x2 := mxIr_get (n := n) n (chI false n n) (i := 0) (by omega)
    have x3 := rowF_get (m := n) (chI false n n 0) (j := 0) (by omega)
    have y1 := spn_get (n := n) (i := n - 1) 48 n (by omega)
    have y2 := mxIr_get (n := n) n (chI true n n) (i := n - 1) (by omega)
    have y3 := rowF_get (m := n) (chI true n n (n - 1)) (j := n - 1) (by omega)
    have hcase : kind % 8 = 0 ∨ kind % 8 = 1 ∨ kind % 8 = 2 ∨ kind % 8 = 3 ∨ kind % 8 = 4 ∨ kind % 8 = 5 ∨ kind % 8 = 6 ∨ kind % 8 = 7 := by omega
    rcases hcase with hkk | hkk | hkk | hkk | hkk | hkk | hkk | hkk
    · have hk : kind % 8 = 0 := by omega
      rw [hk, show ((0 : Nat) : Int) = 0 from rfl]
      refine WpT_block ?_
      (refine WpT_seq (WpT_sreg [] [] (by simp) fun K hK => ?_); simp (disch := omega) only [kc, prep1, effM, ofConst, Value.oneCell', evBin, decT]; (with_reducible refine hK _ ?_))
      refine WpT_cond rfl (fun _ => WpT_skip ?_) (fun h => by simp at h)
      show WpT _ _ _ _ _ _ _
      refine WpT_cond rfl (fun _ => ?_) (fun h => by simp at h)
      ((refine WpT_llent 2 cg [] [] (by kernel_rfl) (by rfl) (by rfl) (by simp) fun K hK => ?_); simp (disch := omega) only [kc, tptr, prep1, Nat.reduceAdd, opS_call, newS, effA, List.find?_cons, evAll, norm, CallRes.plain, List.isEmpty_cons, rawTV, rawAV, normOk, Bool.not_false, noRefTV, noRefAV, Bool.or_false, renTV, renAV, renO, Nat.reduceEqDiff]; (with_reducible refine hK _ ?_))
      rw [hG (by omega)]
      refine ⟨(Weak_sub (tm := [jk, jk, jk, jk, jk, tptr b, .raw (.int .i64 (n : Int)), .one (.sl 31 0 0 n), jk, jk, jk, jk, jk, jk, jk, jk, jk, jk, jk, jk, jk, jk, jk, jk, jk, jk, jk, jk, jk, jk, jk, jk, jk, jk, jk, jk, jk, jk, jk, jk, jk, jk, jk, jk, jk, jk, jk, jk, jk, jk, jk, jk, jk, jk, jk, jk, jk, jk, jk, jk, jk, jk, jk, jk, jk, jk, jk, jk, jk, jk, jk, jk, jk, jk]) (l := [(31, mxI 31 n n ((itI L (dgF L 0 6, adv L 0 n) n).1))]) ⟨mxI_ren 0 31 n n _, trivial⟩ (by simp [wkL, okTV, okAV])).trans ((Weak_fz 31 (fzOk_mxI rfl)).trans (Weak_sub (tm := [jk, jk, jk, jk, jk, tptr b, .raw (.int .i64 (n : Int)), slI (mat n n ((itI L (dgF L 0 6, adv L 0 n) n).1)), jk, jk, jk, jk, jk, jk, jk, jk, jk, jk, jk, jk, jk, jk, jk, jk, jk, jk, jk, jk, jk, jk, jk, jk, jk, jk, jk, jk, jk, jk, jk, jk, jk, jk, jk, jk, jk, jk, jk, jk, jk, jk, jk, jk, jk, jk, jk, jk, jk, jk, jk, jk, jk, jk, jk, jk, jk, jk, jk, jk, jk, jk, jk, jk, jk, jk]) (l := []) trivial (by
        simp [wkL, okTV, okAV]
        exact ⟨rfl, rfl, (fzMI (H := Hm [(31, mxI 31 n n ((itI L (dgF L 0 6, adv L 0 n) n).1))]) (d := 31) (n := n) (c := n) (f := (itI L (dgF L 0 6, adv L 0 n) n).1) rfl).symm⟩))), rfl⟩
    · have hk : kind % 8 = 1 := by omega
      rw [hk, show ((1 : Nat) : Int) = 1 from rfl]
      refine WpT_block ?_
      (refine WpT_seq (WpT_sreg [] [] (by simp) fun K hK => ?_); simp (disch := omega) only [kc, prep1, effM, ofConst, Value.oneCell', evBin, decF]; (with_reducible refine hK _ ?_))
      refine WpT_cond rfl (fun h => by simp at h) (fun _ => ?_)
      (refine WpT_sreg [] [] (by simp) fun K hK => ?_; simp (disch := omega) only [kc, prep1, effM, ofConst, Value.oneCell', evBin, decT]; (with_reducible refine hK _ ?_))
      refine WpT_cond rfl (fun _ => WpT_skip ?_) (fun h => by simp at h)
      show WpT _ _ _ _ _ _ _
      refine WpT_cond rfl (fun _ => ?_) (fun h => by simp at h)
      ((refine WpT_llent 2 cg [] [] (by kernel_rfl) (by rfl) (by rfl) (by simp) fun K hK => ?_); simp (disch := omega) only [kc, tptr, prep1, Nat.reduceAdd, opS_call, newS, effA, List.find?_cons, evAll, norm, CallRes.plain, List.isEmpty_cons, rawTV, rawAV, normOk, Bool.not_false, noRefTV, noRefAV, Bool.or_false, renTV, renAV, renO, Nat.reduceEqDiff]; (with_reducible refine hK _ ?_))
      rw [hG (by omega)]
      refine ⟨(Weak_sub (tm := [jk, jk, jk, jk, jk, tptr b, .raw (.int .i64 (n : Int)), .one (.sl 31 0 0 n), jk, jk, jk, jk, jk, jk, jk, jk, jk, jk, jk, jk, jk, jk, jk, jk, jk, jk, jk, jk, jk, jk, jk, jk, jk, jk, jk, jk, jk, jk, jk, jk, jk, jk, jk, jk, jk, jk, jk, jk, jk, jk, jk, jk, jk, jk, jk, jk, jk, jk, jk, jk, jk, jk, jk, jk, jk, jk, jk, jk, jk, jk, jk, jk, jk, jk]) (l := [(31, mxI 31 n n ((itI L (dgF L 0 6, adv L 0 n) n).1))]) ⟨mxI_ren 0 31 n n _, trivial⟩ (by simp [wkL, okTV, okAV])).trans ((Weak_fz 31 (fzOk_mxI rfl)).trans (Weak_sub (tm := [jk, jk, jk, jk, jk, tptr b, .raw (.int .i64 (n : Int)), slI (mat n n ((itI L (dgF L 0 6, adv L 0 n) n).1)), jk, jk, jk, jk, jk, jk, jk, jk, jk, jk, jk, jk, jk, jk, jk, jk, jk, jk, jk, jk, jk, jk, jk, jk, jk, jk, jk, jk, jk, jk, jk, jk, jk, jk, jk, jk, jk, jk, jk, jk, jk, jk, jk, jk, jk, jk, jk, jk, jk, jk, jk, jk, jk, jk, jk, jk, jk, jk, jk, jk, jk, jk, jk, jk, jk, jk]) (l := []) trivial (by
        simp [wkL, okTV, okAV]
        exact ⟨rfl, rfl, (fzMI (H := Hm [(31, mxI 31 n n ((itI L (dgF L 0 6, adv L 0 n) n).1))]) (d := 31) (n := n) (c := n) (f := (itI L (dgF L 0 6, adv L 0 n) n).1) rfl).symm⟩))), rfl⟩
    · have hk : kind % 8 = 2 := by omega
      rw [hk, show ((2 : Nat) : Int) = 2 from rfl]
      refine WpT_block ?_
      (refine WpT_seq (WpT_sreg [] [] (by simp) fun K hK => ?_); simp (disch := omega) only [kc, prep1, effM, ofConst, Value.oneCell', evBin, decF]; (with_reducible refine hK _ ?_))
      refine WpT_cond rfl (fun h => by simp at h) (fun _ => ?_)
      (refine WpT_sreg [] [] (by simp) fun K hK => ?_; simp (disch := omega) only [kc, prep1, effM, ofConst, Value.oneCell', evBin, decF]; (with_reducible refine hK _ ?_))
      refine WpT_cond rfl (fun h => by simp at h) (fun _ => ?_)
      (refine WpT_sreg [] [] (by simp) fun K hK => ?_; simp (disch := omega) only [kc, prep1, effM, ofConst, Value.oneCell', evBin, decT]; (with_reducible refine hK _ ?_))
      refine WpT_cond rfl (fun _ => WpT_skip ?_) (fun h => by simp at h)
      show WpT _ _ _ _ _ _ _
      refine WpT_cond rfl (fun _ => ?_) (fun h => by simp at h)
      ((refine WpT_llent 2 cg [] [] (by kernel_rfl) (by rfl) (by rfl) (by simp) fun K hK => ?_); simp (disch := omega) only [kc, tptr, prep1, Nat.reduceAdd, opS_call, newS, effA, List.find?_cons, evAll, norm, CallRes.plain, List.isEmpty_cons, rawTV, rawAV, normOk, Bool.not_false, noRefTV, noRefAV, Bool.or_false, renTV, renAV, renO, Nat.reduceEqDiff]; (with_reducible refine hK _ ?_))
      rw [hG (by omega)]
      refine ⟨(Weak_sub (tm := [jk, jk, jk, jk, jk, tptr b, .raw (.int .i64 (n : Int)), .one (.sl 31 0 0 n), jk, jk, jk, jk, jk, jk, jk, jk, jk, jk, jk, jk, jk, jk, jk, jk, jk, jk, jk, jk, jk, jk, jk, jk, jk, jk, jk, jk, jk, jk, jk, jk, jk, jk, jk, jk, jk, jk, jk, jk, jk, jk, jk, jk, jk, jk, jk, jk, jk, jk, jk, jk, jk, jk, jk, jk, jk, jk, jk, jk, jk, jk, jk, jk, jk, jk]) (l := [(31, mxI 31 n n ((itI L (dgF L 0 6, adv L 0 n) n).1))]) ⟨mxI_ren 0 31 n n _, trivial⟩ (by simp [wkL, okTV, okAV])).trans ((Weak_fz 31 (fzOk_mxI rfl)).trans (Weak_sub (tm := [jk, jk, jk, jk, jk, tptr b, .raw (.int .i64 (n : Int)), slI (mat n n ((itI L (dgF L 0 6, adv L 0 n) n).1)), jk, jk, jk, jk, jk, jk, jk, jk, jk, jk, jk, jk, jk, jk, jk, jk, jk, jk, jk, jk, jk, jk, jk, jk, jk, jk, jk, jk, jk, jk, jk, jk, jk, jk, jk, jk, jk, jk, jk, jk, jk, jk, jk, jk, jk, jk, jk, jk, jk, jk, jk, jk, jk, jk, jk, jk, jk, jk, jk, jk, jk, jk, jk, jk, jk, jk]) (l := []) trivial (by
        simp [wkL, okTV, okAV]
        exact ⟨rfl, rfl, (fzMI (H := Hm [(31, mxI 31 n n ((itI L (dgF L 0 6, adv L 0 n) n).1))]) (d := 31) (n := n) (c := n) (f := (itI L (dgF L 0 6, adv L 0 n) n).1) rfl).symm⟩))), rfl⟩
    · have hk : kind % 8 = 3 := by omega
      rw [hk, show ((3 : Nat) : Int) = 3 from rfl]
      refine WpT_block ?_
      (refine WpT_seq (WpT_sreg [] [] (by simp) fun K hK => ?_); simp (disch := omega) only [kc, prep1, effM, ofConst, Value.oneCell', evBin, decF]; (with_reducible refine hK _ ?_))
      refine WpT_cond rfl (fun h => by simp at h) (fun _ => ?_)
      (refine WpT_sreg [] [] (by simp) fun K hK => ?_; simp (disch := omega) only [kc, prep1, effM, ofConst, Value.oneCell', evBin, decF]; (with_reducible refine hK _ ?_))
      refine WpT_cond rfl (fun h => by simp at h) (fun _ => ?_)
      (refine WpT_sreg [] [] (by simp) fun K hK => ?_; simp (disch := omega) only [kc, prep1, effM, ofConst, Value.oneCell', evBin, decF]; (with_reducible refine hK _ ?_))
      refine WpT_cond rfl (fun h => by simp at h) (fun _ => ?_)
      ((refine WpT_lreg [] [] (by simp) fun K hK => ?_); simp (disch := omega) only [kc, prep1, effM, ofConst, Value.oneCell', evBin, decT]; (with_reducible refine hK _ ?_))
      show WpT _ _ _ _ _ _ _
      refine WpT_cond rfl (fun _ => ?_) (fun h => by simp at h)
      ((refine WpT_llent 2 cg [] [] (by kernel_rfl) (by rfl) (by rfl) (by simp) fun K hK => ?_); simp (disch := omega) only [kc, tptr, prep1, Nat.reduceAdd, opS_call, newS, effA, List.find?_cons, evAll, norm, CallRes.plain, List.isEmpty_cons, rawTV, rawAV, normOk, Bool.not_false, noRefTV, noRefAV, Bool.or_false, renTV, renAV, renO, Nat.reduceEqDiff]; (with_reducible refine hK _ ?_))
      rw [hG (by omega)]
      refine ⟨(Weak_sub (tm := [jk, jk, jk, jk, jk, tptr b, .raw (.int .i64 (n : Int)), .one (.sl 31 0 0 n), jk, jk, jk, jk, jk, jk, jk, jk, jk, jk, jk, jk, jk, jk, jk, jk, jk, jk, jk, jk, jk, jk, jk, jk, jk, jk, jk, jk, jk, jk, jk, jk, jk, jk, jk, jk, jk, jk, jk, jk, jk, jk, jk, jk, jk, jk, jk, jk, jk, jk, jk, jk, jk, jk, jk, jk, jk, jk, jk, jk, jk, jk, jk, jk, jk, jk]) (l := [(31, mxI 31 n n ((itI L (dgF L 0 6, adv L 0 n) n).1))]) ⟨mxI_ren 0 31 n n _, trivial⟩ (by simp [wkL, okTV, okAV])).trans ((Weak_fz 31 (fzOk_mxI rfl)).trans (Weak_sub (tm := [jk, jk, jk, jk, jk, tptr b, .raw (.int .i64 (n : Int)), slI (mat n n ((itI L (dgF L 0 6, adv L 0 n) n).1)), jk, jk, jk, jk, jk, jk, jk, jk, jk, jk, jk, jk, jk, jk, jk, jk, jk, jk, jk, jk, jk, jk, jk, jk, jk, jk, jk, jk, jk, jk, jk, jk, jk, jk, jk, jk, jk, jk, jk, jk, jk, jk, jk, jk, jk, jk, jk, jk, jk, jk, jk, jk, jk, jk, jk, jk, jk, jk, jk, jk, jk, jk, jk, jk, jk, jk]) (l := []) trivial (by
        simp [wkL, okTV, okAV]
        exact ⟨rfl, rfl, (fzMI (H := Hm [(31, mxI 31 n n ((itI L (dgF L 0 6, adv L 0 n) n).1))]) (d := 31) (n := n) (c := n) (f := (itI L (dgF L 0 6, adv L 0 n) n).1) rfl).symm⟩))), rfl⟩
    · have hk : kind % 8 = 4 := by omega
      rw [hk, show ((4 : Nat) : Int) = 4 from rfl]
      refine WpT_block ?_
      (refine WpT_seq (WpT_sreg [] [] (by simp) fun K hK => ?_); simp (disch := omega) only [kc, prep1, effM, ofConst, Value.oneCell', evBin, decF]; (with_reducible refine hK _ ?_))
      refine WpT_cond rfl (fun h => by simp at h) (fun _ => ?_)
      (refine WpT_sreg [] [] (by simp) fun K hK => ?_; simp (disch := omega) only [kc, prep1, effM, ofConst, Value.oneCell', evBin, decF]; (with_reducible refine hK _ ?_))
      refine WpT_cond rfl (fun h => by simp at h) (fun _ => ?_)
      (refine WpT_sreg [] [] (by simp) fun K hK => ?_; simp (disch := omega) only [kc, prep1, effM, ofConst, Value.oneCell', evBin, decF]; (with_reducible refine hK _ ?_))
      refine WpT_cond rfl (fun h => by simp at h) (fun _ => ?_)
      ((refine WpT_lreg [] [] (by simp) fun K hK => ?_); simp (disch := omega) only [kc, prep1, effM, ofConst, Value.oneCell', evBin, decF]; (with_reducible refine hK _ ?_))
      show WpT _ _ _ _ _ _ _
      refine WpT_cond rfl (fun h => by simp at h) (fun _ => ?_)
      (refine WpT_sreg [] [] (by simp) fun K hK => ?_; simp (disch := omega) only [kc, prep1, effM, ofConst, Value.oneCell', evBin, decT]; (with_reducible refine hK _ ?_))
      refine WpT_cond rfl (fun _ => ?_) (fun h => by simp at h)
      (refine WpT_sreg [⟨1, _, _, _, cha⟩] [] (by simp) fun K hK => ?_; simp (disch := omega) only [kc, CItem.a, prep1, Nat.reduceAdd, opS_call, newS, effA, List.find?_cons, evAll, ofConst, Value.oneCell', norm, CallRes.plain, List.isEmpty_cons, rawTV, rawAV, normOk, Bool.not_false, noRefTV, noRefAV, Bool.or_false, renTV, renAV, renO, Nat.reduceEqDiff]; (with_reducible refine hK _ ?_))
      refine WpT.weak (Weak_sub (tm := [jk, jk, jk, jk, jk, tptr b, .raw (.int .i64 (n : Int)), .one (.sl 35 0 0 n), jk, jk, jk, jk, jk, jk, jk, jk, jk, jk, jk, jk, jk, jk, jk, jk, jk, jk, jk, jk, jk, jk, jk, jk, jk, jk, jk, jk, jk, jk, jk, jk, jk, jk, jk, jk, jk, jk, jk, jk, jk, jk, jk, jk, jk, jk, jk, jk, jk, jk, jk, jk, jk, jk, jk, jk, jk, jk, jk, jk, jk, jk, jk, jk, jk, jk]) (l := [(35, mxI 35 n n (chI false n n))]) ⟨mxI_ren 0 35 n n _, trivial⟩ (by simp [wkL, okTV, okAV])) ?_
      ((refine WpT_lldraw mixedA 6 cb3 [] [] (by kernel_rfl) (by kernel_rfl) (by rfl) (by rfl) (by simp) fun K hK => ?_); simp (disch := omega) only [kc, tptr, prep1, Nat.reduceAdd, Hm, opS_indexAddr, effR, ofConst, Value.oneCell', natOf_pos, Int.reduceToNat, ty_slice22, ty_sz23, Nat.add_zero, ifT, x1, packT, ty_agg23, ty_slice23, x2, ty_sz2, lc_get, fI, x3, ty_agg2, opS_call, newS, effA, List.find?_cons, evAll, norm, CallRes.plain, rawTV, rawAV, normOk, noRefTV, noRefAV, renTV, renAV, effM, evBin, wrapI, opS_store, wrS, effD, cellsOf, Nat.le_refl, isPure, putCells, mxIr_set, killTV, killAV]; (with_reducible refine hK _ ?_))
      rw [show rawG kind L n = (upd (chI false n n) 0 0 (chI false n n 0 0 + (belF L 0 3 : Int)), nextAt L 0) by unfold rawG; rw [if_neg (by omega), if_pos hk]]
      refine ⟨(Weak_sub (tm := [jk, jk, jk, jk, jk, tptr b, .raw (.int .i64 (n : Int)), .one (.sl 35 0 0 n), jk, jk, jk, jk, jk, jk, jk, jk, jk, jk, jk, jk, jk, jk, jk, jk, jk, jk, jk, jk, jk, jk, jk, jk, jk, jk, jk, jk, jk, jk, jk, jk, jk, jk, jk, jk, jk, jk, jk, jk, jk, jk, jk, jk, jk, jk, jk, jk, jk, jk, jk, jk, jk, jk, jk, jk, jk, jk, jk, jk, jk, jk, jk, jk, jk, jk]) (l := [(35, mxI 35 n n (upd (chI false n n) 0 0 (chI false n n 0 0 + (belF L 0 3 : Int))))]) ⟨rfl, trivial⟩ (by simp [wkL, okTV, okAV])).trans ((Weak_fz 35 (fzOk_mxI rfl)).trans (Weak_sub (tm := [jk, jk, jk, jk, jk, tptr b, .raw (.int .i64 (n : Int)), slI (mat n n (upd (chI false n n) 0 0 (chI false n n 0 0 + (belF L 0 3 : Int)))), jk, jk, jk, jk, jk, jk, jk, jk, jk, jk, jk, jk, jk, jk, jk, jk, jk, jk, jk, jk, jk, jk, jk, jk, jk, jk, jk, jk, jk, jk, jk, jk, jk, jk, jk, jk, jk, jk, jk, jk, jk, jk, jk, jk, jk, jk, jk, jk, jk, jk, jk, jk, jk, jk, jk, jk, jk, jk, jk, jk, jk, jk, jk, jk, jk, jk]) (l := []) trivial (by
        simp [wkL, okTV, okAV]
        exact ⟨rfl, rfl, (fzMI (H := Hm [(35, mxI 35 n n (upd (chI false n n) 0 0 (chI false n n 0 0 + (belF L 0 3 : Int))))]) (d := 35) (n := n) (c := n) (f := upd (chI false n n) 0 0 (chI false n n 0 0 + (belF L 0 3 : Int))) rfl).symm⟩))), rfl⟩
    · have hk : kind % 8 = 5 := by omega
      rw [hk, show ((5 : Nat) : Int) = 5 from rfl]
      refine WpT_block ?_
      (refine WpT_seq (WpT_sreg [] [] (by simp) fun K hK => ?_); simp (disch := omega) only [kc, prep1, effM, ofConst, Value.oneCell', evBin, decF]; (with_reducible refine hK _ ?_))
      refine WpT_cond rfl (fun h => by simp at h) (fun _ => ?_)
      (refine WpT_sreg [] [] (by simp) fun K hK => ?_; simp (disch := omega) only [kc, prep1, effM, ofConst, Value.oneCell', evBin, decF]; (with_reducible refine hK _ ?_))
      refine WpT_cond rfl (fun h => by simp at h) (fun _ => ?_)
      (refine WpT_sreg [] [] (by simp) fun K hK => ?_; simp (disch := omega) only [kc, prep1, effM, ofConst, Value.oneCell', evBin, decF]; (with_reducible refine hK _ ?_))
      refine WpT_cond rfl (fun h => by simp at h) (fun _ => ?_)
      ((refine WpT_lreg [] [] (by simp) fun K hK => ?_); simp (disch := omega) only [kc, prep1, effM, ofConst, Value.oneCell', evBin, decF]; (with_reducible refine hK _ ?_))
      show WpT _ _ _ _ _ _ _
      refine WpT_cond rfl (fun h => by simp at h) (fun _ => ?_)
      (refine WpT_sreg [] [] (by simp) fun K hK => ?_; simp (disch := omega) only [kc, prep1, effM, ofConst, Value.oneCell', evBin, decF]; (with_reducible refine hK _ ?_))
      refine WpT_cond rfl (fun h => by simp at h) (fun _ => ?_)
      (refine WpT_sreg [] [] (by simp) fun K hK => ?_; simp (disch := omega) only [kc, prep1, effM, ofConst, Value.oneCell', evBin, decT]; (with_reducible refine hK _ ?_))
      refine WpT_cond rfl (fun _ => ?_) (fun h => by simp at h)
      (refine WpT_sreg [⟨1, _, _, _, chb⟩] [] (by simp) fun K hK => ?_; simp (disch := omega) only [kc, CItem.a, prep1, Nat.reduceAdd, opS_call, newS, effA, List.find?_cons, evAll, ofConst, Value.oneCell', norm, CallRes.plain, List.isEmpty_cons, rawTV, rawAV, normOk, Bool.not_false, noRefTV, noRefAV, Bool.or_false, renTV, renAV, renO, Nat.reduceEqDiff]; (with_reducible refine hK _ ?_))
      refine WpT.weak (Weak_sub (tm := [jk, jk, jk, jk, jk, tptr b, .raw (.int .i64 (n : Int)), .one (.sl 48 0 0 n), jk, jk, jk, jk, jk, jk, jk, jk, jk, jk, jk, jk, jk, jk, jk, jk, jk, jk, jk, jk, jk, jk, jk, jk, jk, jk, jk, jk, jk, jk, jk, jk, jk, jk, jk, jk, jk, jk, jk, jk, jk, jk, jk, jk, jk, jk, jk, jk, jk, jk, jk, jk, jk, jk, jk, jk, jk, jk, jk, jk, jk, jk, jk, jk, jk, jk]) (l := [(48, mxI 48 n n (chI true n n))]) ⟨mxI_ren 0 48 n n _, trivial⟩ (by simp [wkL, okTV, okAV])) ?_
      ((refine WpT_lldraw mixedA 10 cb2 [] [] (by kernel_rfl) (by kernel_rfl) (by rfl) (by rfl) (by simp) fun K hK => ?_); simp (disch := omega) only [kc, tptr, prep1, Nat.reduceAdd, Hm, effM, ofConst, Value.oneCell', evBin, wrapI, opS_indexAddr, effR, natOf_pos, x0, ty_slice22, ty_sz23, ifT, y1, packT, ty_agg23, ty_slice23, y2, ty_sz2, lc_get, fI, y3, ty_agg2, opS_call, newS, effA, List.find?_cons, evAll, norm, CallRes.plain, rawTV, rawAV, normOk, noRefTV, noRefAV, renTV, renAV, opS_store, wrS, effD, cellsOf, Nat.le_refl, isPure, putCells, mxIr_set, killTV, killAV]; (with_reducible refine hK _ ?_))
      rw [show rawG kind L n = (upd (chI true n n) (n - 1) (n - 1) (chI true n n (n - 1) (n - 1) + (belF L 0 2 : Int)), nextAt L 0) by unfold rawG; rw [if_neg (by omega), if_neg (by omega), if_pos hk]]
      refine ⟨(Weak_sub (tm := [jk, jk, jk, jk, jk, tptr b, .raw (.int .i64 (n : Int)), .one (.sl 48 0 0 n), jk, jk, jk, jk, jk, jk, jk, jk, jk, jk, jk, jk, jk, jk, jk, jk, jk, jk, jk, jk, jk, jk, jk, jk, jk, jk, jk, jk, jk, jk, jk, jk, jk, jk, jk, jk, jk, jk, jk, jk, jk, jk, jk, jk, jk, jk, jk, jk, jk, jk, jk, jk, jk, jk, jk, jk, jk, jk, jk, jk, jk, jk, jk, jk, jk, jk]) (l := [(48, mxI 48 n n (upd (chI true n n) (n - 1) (n - 1) (chI true n n (n - 1) (n - 1) + (belF L 0 2 : Int))))]) ⟨rfl, trivial⟩ (by simp [wkL, okTV, okAV])).trans ((Weak_fz 48 (fzOk_mxI rfl)).trans (Weak_sub (tm := [jk, jk, jk, jk, jk, tptr b, .raw (.int .i64 (n : Int)), slI (mat n n (upd (chI true n n) (n - 1) (n - 1) (chI true n n (n - 1) (n - 1) + (belF L 0 2 : Int)))), jk, jk, jk, jk, jk, jk, jk, jk, jk, jk, jk, jk, jk, jk, jk, jk, jk, jk, jk, jk, jk, jk, jk, jk, jk, jk, jk, jk, jk, jk, jk, jk, jk, jk, jk, jk, jk, jk, jk, jk, jk, jk, jk, jk, jk, jk, jk, jk, jk, jk, jk, jk, jk, jk, jk, jk, jk, jk, jk, jk, jk, jk, jk, jk, jk, jk]) (l := []) trivial (by
        simp [wkL, okTV, okAV]
        exact ⟨rfl, rfl, (fzMI (H := Hm [(48, mxI 48 n n (upd (chI true n n) (n - 1) (n - 1) (chI true n n (n - 1) (n - 1) + (belF L 0 2 : Int))))]) (d := 48) (n := n) (c := n) (f := upd (chI true n n) (n - 1) (n - 1) (chI true n n (n - 1) (n - 1) + (belF L 0 2 : Int))) rfl).symm⟩))), rfl⟩
    · have hk : kind % 8 = 6 := by omega
      rw [hk, show ((6 : Nat) : Int) = 6 from rfl]
      refine WpT_block ?_
      (refine WpT_seq (WpT_sreg [] [] (by simp) fun K hK => ?_); simp (disch := omega) only [kc, prep1, effM, ofConst, Value.oneCell', evBin, decF]; (with_reducible refine hK _ ?_))
      refine WpT_cond rfl (fun h => by simp at h) (fun _ => ?_)
      (refine WpT_sreg [] [] (by simp) fun K hK => ?_; simp (disch := omega) only [kc, prep1, effM, ofConst, Value.oneCell', evBin, decF]; (with_reducible refine hK _ ?_))
      refine WpT_cond rfl (fun h => by simp at h) (fun _ => ?_)
      (refine WpT_sreg [] [] (by simp) fun K hK => ?_; simp (disch := omega) only [kc, prep1, effM, ofConst, Value.oneCell', evBin, decF]; (with_reducible refine hK _ ?_))
      refine WpT_cond rfl (fun h => by simp at h) (fun _ => ?_)
      ((refine WpT_lreg [] [] (by simp) fun K hK => ?_); simp (disch := omega) only [kc, prep1, effM, ofConst, Value.oneCell', evBin, decF]; (with_reducible refine hK _ ?_))
      show WpT _ _ _ _ _ _ _
      refine WpT_cond rfl (fun h => by simp at h) (fun _ => ?_)
      (refine WpT_sreg [] [] (by simp) fun K hK => ?_; simp (disch := omega) only [kc, prep1, effM, ofConst, Value.oneCell', evBin, decF]; (with_reducible refine hK _ ?_))
      refine WpT_cond rfl (fun h => by simp at h) (fun _ => ?_)
      (refine WpT_sreg [] [] (by simp) fun K hK => ?_; simp (disch := omega) only [kc, prep1, effM, ofConst, Value.oneCell', evBin, decF]; (with_reducible refine hK _ ?_))
      refine WpT_cond rfl (fun h => by simp at h) (fun _ => ?_)
      (refine WpT_sreg [] [] (by simp) fun K hK => ?_; simp (disch := omega) only [kc, prep1, effM, ofConst, Value.oneCell', evBin, decT]; (with_reducible refine hK _ ?_))
      refine WpT_cond rfl (fun _ => ?_) (fun h => by simp at h)
      ((refine WpT_llent 2 cd9 [] [] (by kernel_rfl) (by rfl) (by rfl) (by simp) fun K hK => ?_); simp (disch := omega) only [kc, tptr, prep1, Nat.reduceAdd, opS_call, newS, effA, List.find?_cons, evAll, ofConst, Value.oneCell', norm, CallRes.plain, List.isEmpty_cons, rawTV, rawAV, normOk, Bool.not_false, noRefTV, noRefAV, Bool.or_false, renTV, renAV, renO, Nat.reduceEqDiff]; (with_reducible refine hK _ ?_))
      rw [show rawG kind L n = (dgF L 0 9, adv L 0 n) by unfold rawG; rw [if_neg (by omega), if_neg (by omega), if_neg (by omega), if_pos hk]]
      refine ⟨(Weak_sub (tm := [jk, jk, jk, jk, jk, tptr b, .raw (.int .i64 (n : Int)), .one (.sl 66 0 0 n), jk, jk, jk, jk, jk, jk, jk, jk, jk, jk, jk, jk, jk, jk, jk, jk, jk, jk, jk, jk, jk, jk, jk, jk, jk, jk, jk, jk, jk, jk, jk, jk, jk, jk, jk, jk, jk, jk, jk, jk, jk, jk, jk, jk, jk, jk, jk, jk, jk, jk, jk, jk, jk, jk, jk, jk, jk, jk, jk, jk, jk, jk, jk, jk, jk, jk]) (l := [(66, mxI 66 n n (dgF L 0 9))]) ⟨mxI_ren 0 66 n n _, trivial⟩ (by simp [wkL, okTV, okAV])).trans ((Weak_fz 66 (fzOk_mxI rfl)).trans (Weak_sub (tm := [jk, jk, jk, jk, jk, tptr b, .raw (.int .i64 (n : Int)), slI (mat n n (dgF L 0 9)), jk, jk, jk, jk, jk, jk, jk, jk, jk, jk, jk, jk, jk, jk, jk, jk, jk, jk, jk, jk, jk, jk, jk, jk, jk, jk, jk, jk, jk, jk, jk, jk, jk, jk, jk, jk, jk, jk, jk, jk, jk, jk, jk, jk, jk, jk, jk, jk, jk, jk, jk, jk, jk, jk, jk, jk, jk, jk, jk, jk, jk, jk, jk, jk, jk, jk]) (l := []) trivial (by
        simp [wkL, okTV, okAV]
        exact ⟨rfl, rfl, (fzMI (H := Hm [(66, mxI 66 n n (dgF L 0 9))]) (d := 66) (n := n) (c := n) (f := dgF L 0 9) rfl).symm⟩))), rfl⟩
    · have hk : kind % 8 = 7 := by omega
      rw [hk, show ((7 : Nat) : Int) = 7 from rfl]
      refine WpT_block ?_
      (refine WpT_seq (WpT_sreg [] [] (by simp) fun K hK => ?_); simp (disch := omega) only [kc, prep1, effM, ofConst, Value.oneCell', evBin, decF]; (with_reducible refine hK _ ?_))
      refine WpT_cond rfl (fun h => by simp at h) (fun _ => ?_)
      (refine WpT_sreg [] [] (by simp) fun K hK => ?_; simp (disch := omega) only [kc, prep1, effM, ofConst, Value.oneCell', evBin, decF]; (with_reducible refine hK _ ?_))
      refine WpT_cond rfl (fun h => by simp at h) (fun _ => ?_)
      (refine WpT_sreg [] [] (by simp) fun K hK => ?_; simp (disch := omega) only [kc, prep1, effM, ofConst, Value.oneCell', evBin, decF]; (with_reducible refine hK _ ?_))
      refine WpT_cond rfl (fun h => by simp at h) (fun _ => ?_)
      ((refine WpT_lreg [] [] (by simp) fun K hK => ?_); simp (disch := omega) only [kc, prep1, effM, ofConst, Value.oneCell', evBin, decF]; (with_reducible refine hK _ ?_))
      show WpT _ _ _ _ _ _ _
      refine WpT_cond rfl (fun h => by simp at h) (fun _ => ?_)
      (refine WpT_sreg [] [] (by simp) fun K hK => ?_; simp (disch := omega) only [kc, prep1, effM, ofConst, Value.oneCell', evBin, decF]; (with_reducible refine hK _ ?_))
      refine WpT_cond rfl (fun h => by simp at h) (fun _ => ?_)
      (refine WpT_sreg [] [] (by simp) fun K hK => ?_; simp (disch := omega) only [kc, prep1, effM, ofConst, Value.oneCell', evBin, decF]; (with_reducible refine hK _ ?_))
      refine WpT_cond rfl (fun h => by simp at h) (fun _ => ?_)
      (refine WpT_sreg [] [] (by simp) fun K hK => ?_; simp (disch := omega) only [kc, prep1, effM, ofConst, Value.oneCell', evBin, decF]; (with_reducible refine hK _ ?_))
      refine WpT_cond rfl (fun h => by simp at h) (fun _ => ?_)
      ((refine WpT_llent 2 cd1 [] [] (by kernel_rfl) (by rfl) (by rfl) (by simp) fun K hK => ?_); simp (disch := omega) only [kc, tptr, prep1, Nat.reduceAdd, opS_call, newS, effA, List.find?_cons, evAll, ofConst, Value.oneCell', norm, CallRes.plain, List.isEmpty_cons, rawTV, rawAV, normOk, Bool.not_false, noRefTV, noRefAV, Bool.or_false, renTV, renAV, renO, Nat.reduceEqDiff]; (with_reducible refine hK _ ?_))
      rw [show rawG kind L n = (dgF L 0 1, adv L 0 n) by unfold rawG; rw [if_neg (by omega), if_neg (by omega), if_neg (by omega), if_neg (by omega)]]
      refine ⟨(Weak_sub (tm := [jk, jk, jk, jk, jk, tptr b, .raw (.int .i64 (n : Int)), .one (.sl 23 0 0 n), jk, jk, jk, jk, jk, jk, jk, jk, jk, jk, jk, jk, jk, jk, jk, jk, jk, jk, jk, jk, jk, jk, jk, jk, jk, jk, jk, jk, jk, jk, jk, jk, jk, jk, jk, jk, jk, jk, jk, jk, jk, jk, jk, jk, jk, jk, jk, jk, jk, jk, jk, jk, jk, jk, jk, jk, jk, jk, jk, jk, jk, jk, jk, jk, jk, jk]) (l := [(23, mxI 23 n n (dgF L 0 1))]) ⟨mxI_ren 0 23 n n _, trivial⟩ (by simp [wkL, okTV, okAV])).trans ((Weak_fz 23 (fzOk_mxI rfl)).trans (Weak_sub (tm := [jk, jk, jk, jk, jk, tptr b, .raw (.int .i64 (n : Int)), slI (mat n n (dgF L 0 1)), jk, jk, jk, jk, jk, jk, jk, jk, jk, jk, jk, jk, jk, jk, jk, jk, jk, jk, jk, jk, jk, jk, jk, jk, jk, jk, jk, jk, jk, jk, jk, jk, jk, jk, jk, jk, jk, jk, jk, jk, jk, jk, jk, jk, jk, jk, jk, jk, jk, jk, jk, jk, jk, jk, jk, jk, jk, jk, jk, jk, jk, jk, jk, jk, jk, jk]) (l := []) trivial (by
        simp [wkL, okTV, okAV]
        exact ⟨rfl, rfl, (fzMI (H := Hm [(23, mxI 23 n n (dgF L 0 1))]) (d := 23) (n := n) (c := n) (f := dgF L 0 1) rfl).symm⟩))), rfl⟩
  · generalize hrw : rawG kind L n = rg at *
    obtain ⟨f, p⟩ := rg
    simp only at hraw hple ⊢
    have e5 : gramF kind L n = (open Classical in if GoodP n f then f else dgF L p 2) := by unfold gramF; rw [hrw]
    by_cases hg : GoodP n f
    · rw [if_pos hg] at e5
      rw [e5]
      have c1 := good_C n f hn1 hn8 hraw.i64 true (by simp [hg])
      (refine WpT_seq (WpT_sreg [⟨1, _, _, _, c1⟩] [] (by simp) fun K hK => ?_); simp (disch := omega) only [kc, slI, CItem.a, prep1, Nat.reduceAdd, tptr, Hm, opS_call, newS, effA, List.find?_cons, evAll, norm, CallRes.plain, rawTV, rawAV, normOk, noRefTV, noRefAV, renTV, renAV, opS_un, effM, evUn]; (with_reducible refine hK _ ?_))
      refine WpT_cond rfl (fun h => by simp at h) (fun _ => WpT_skip ?_)
      show WpT _ _ _ _ _ _ _
      (refine WpT_sreg [] [] (by simp) fun K hK => ?_; simp (disch := omega) only [kc, prep1]; (with_reducible refine hK _ ?_))
      refine WpT_ret ⟨.inr rfl, ret_now rfl ?_ rfl⟩
      simp (disch := omega) only [resA, Tryz.results40, resOne, List.getElem?_cons_succ, List.getElem?_cons_zero, slI]
    · rw [if_neg hg] at e5
      rw [e5]
      have c1 := good_C n f hn1 hn8 hraw.i64 false (by simp [hg])
      have c2 := diagonal_T b L p n 2 hL hple hn8 (by omega) (by omega)
      rw [show ((2 : Nat) : Int) = 2 from rfl] at c2
      (refine WpT_seq (WpT_sreg [⟨1, _, _, _, c1⟩] [] (by simp) fun K hK => ?_); simp (disch := omega) only [kc, slI, CItem.a, prep1, Nat.reduceAdd, tptr, Hm, opS_call, newS, effA, List.find?_cons, evAll, norm, CallRes.plain, rawTV, rawAV, normOk, noRefTV, noRefAV, renTV, renAV, opS_un, effM, evUn, Bool.not_false]; (with_reducible refine hK _ ?_))
      refine WpT_cond rfl (fun _ => ?_) (fun h => by simp at h)
      (refine WpT_slent 2 c2 [] [] (by kernel_rfl) (by rfl) (by rfl) (by simp) fun K hK => ?_; simp (disch := omega) only [kc, tptr, prep1, Nat.reduceAdd, opS_call, newS, effA, List.find?_cons, evAll, ofConst, Value.oneCell', norm, CallRes.plain, List.isEmpty_cons, rawTV, rawAV, normOk, Bool.not_false, noRefTV, noRefAV, Bool.or_false, renTV, renAV, renO]; (with_reducible refine hK _ ?_))
      refine WpT.weak (Weak_sub (tm := [jk, jk, jk, jk, .one (.sl 72 0 0 n), jk, jk, jk, jk, jk, jk, jk, jk, jk, jk, jk, jk, jk, jk, jk, jk, jk, jk, jk, jk, jk, jk, jk, jk, jk, jk, jk, jk, jk, jk, jk, jk, jk, jk, jk, jk, jk, jk, jk, jk, jk, jk, jk, jk, jk, jk, jk, jk, jk, jk, jk, jk, jk, jk, jk, jk, jk, jk, jk, jk, jk, jk, jk, jk, jk, jk, jk, jk, jk]) (l := [(72, mxI 72 n n (dgF L p 2))]) ⟨mxI_ren 0 72 n n _, trivial⟩ (by simp [wkL, okTV, okAV])) ?_
      refine WpT.weak ((Weak_fz 72 (fzOk_mxI rfl)).trans (Weak_sub (tm := [jk, jk, jk, jk, slI (mat n n (dgF L p 2)), jk, jk, jk, jk, jk, jk, jk, jk, jk, jk, jk, jk, jk, jk, jk, jk, jk, jk, jk, jk, jk, jk, jk, jk, jk, jk, jk, jk, jk, jk, jk, jk, jk, jk, jk, jk, jk, jk, jk, jk, jk, jk, jk, jk, jk, jk, jk, jk, jk, jk, jk, jk, jk, jk, jk, jk, jk, jk, jk, jk, jk, jk, jk, jk, jk, jk, jk, jk, jk]) (l := []) trivial (by
        simp [wkL, okTV, okAV]
        exact (fzMI (H := Hm [(72, mxI 72 n n (dgF L p 2))]) (d := 72) (n := n) (c := n) (f := dgF L p 2) rfl).symm))) ?_
      refine WpT_ret ⟨.inr rfl, ret_now rfl ?_ rfl⟩
      simp (disch := omega) only [resA, Tryz.results40, resOne, slI, List.getElem?_cons_succ, List.getElem?_cons_zero]
end Go.Proofs.YtennjcjjegbhgaaGreat
namespace Go.Proofs.YtennjcjjegbhgaaGreat
open Go.RowKit
set_option maxRecDepth 100000 in
set_option maxHeartbeats 16000000 in
theorem ToInts_C (n c : Nat) (f : Nat → Nat → Int) (hn1 : 1 ≤ n) (hn : n ≤ 16) (hc1 : 1 ≤ c) (hc : c ≤ 16) (hf : ∀ i j : Nat, i < n → j < c → I64 (f i j)) :
    CallC Tryz.prog 69 [slM (mat n c f)] ⟨[], .tup [(false, [.p (.sl (ls (fR fI) (mat n c f)))]), (false, [.p (.raw (.bool true))])]⟩ := by
  have hS := Shape_C (mat n c f)
  rw [shT_yes (mat_ShP f hn1 hn hc1 hc), mat_len, mat_head f hn1] at hS
  refine callC_of Tryz.func69 rfl (by kernel_rfl) ?_; rw [Tryz.ntmps69]
  (refine WpA_sreg [] [] (by simp) fun K hK => ?_; simp (disch := omega) only [kc, prep1, slM, List.replicate, ofConst, Value.oneCell']; (with_reducible refine hK _ ?_))
  (refine WpA_sreg [⟨1, _, _, _, hS⟩] [] (by simp) fun K hK => ?_; simp (disch := omega) only [kc, slM, CItem.a, prep1, Nat.reduceAdd, opS_call, newS, effA, List.find?_cons, evAll, norm, CallRes.plain, rawTV, rawAV, normOk, noRefTV, noRefAV, renTV, renAV, opS_extract, effM]; (with_reducible refine hK _ ?_))
  (refine WpA_seq (WpA_sreg [] [] (by simp) fun K hK => ?_); simp (disch := omega) only [kc, prep1, opS_un, effM, evUn]; (with_reducible refine hK _ ?_))
  refine WpA_cond rfl (fun h => by simp at h) (fun _ => WpA_skip ?_)
  show WpA _ _ _ _
  (refine WpA_sreg [] [] (by simp) fun K hK => ?_; simp (disch := omega) only [kc, prep1, Nat.reduceAdd, opS_makeSlice, newS, effA, ty_slice22, ty_zero23, ty_sz23, ty_by23, Int.natCast_nonneg, Value.oneCell', and_true, ifT]; (with_reducible refine hK _ ?_))
  (refine WpA_seq (WpA_sreg [] [] (by simp) fun K hK => ?_); simp (disch := omega) only [kc, prep1, Nat.reduceAdd, opS_len, effR, ty_slice22, ofConst, Value.oneCell']; (with_reducible refine hK _ ?_))
  refine WpA_forb (G := FiG n) (fun g => ⟨[slM (mat n c f), jk, jk, jk, jk, .raw (.int .i64 (c : Int)), jk, .one (.sl 21 0 0 n), jk, jk, jk, jk, jk, jk, jk, jk, jk, jk, jk, jk, jk, jk, jk, .raw (.int .i64 (n : Int)), .raw (.int .i64 (g.i : Int)), jk, jk, jk, jk, jk, jk, jk, jk, jk, jk, jk, jk, jk, jk, jk, jk, jk, jk, jk, jk, jk, jk, jk, jk, jk, jk, jk, jk, jk, jk, jk, jk, jk, jk, jk, jk, jk, jk], Hm [(21, kI 21 n c g.i (part f g.i 0))]⟩) (fun g => n - g.i) ⟨0, by omega⟩ ?_ ?_
  · refine Weak_sub ⟨?_, trivial⟩ ?_
    · show [_] = _
      simp [spn, mat]
    · simp [wkL, okTV, okAV]
  · rintro ⟨i, hi⟩
    simp only
    by_cases hm : i < n
    · have hr := mat_get c f hm
      have k1 := kI_nil (i := i) (n := n) 21 c hm
      have k2 := kI_len (i := i) (n := n) 21 c hi
      have k3 := mat_len i c (part f i 0)
      have k4 := kI_make (i := i) (n := n) (c := c) 21 (part f i 0) hm (fun j hj => by unfold part; rw [if_neg (by omega)])
      have k5 := kI_get (i := i + 1) (k := i) (n := n) 21 c (by omega)
      have k6 := kI_len (i := i + 1) (n := n) 21 c (by omega)
      have k7 := mxIr_get (n := i + 1) c (part f i 0) (i := i) (by omega)
      (refine WpA_sreg [] [] (by simp) fun K hK => ?_; simp (disch := omega) only [kc, prep1, slM, Hm, effM, evBin, decT]; (with_reducible refine hK _ ?_))
      refine WpA_seq (WpA_cond rfl (fun _ => WpA_skip ?_) (fun h => by simp at h <;> omega))
      refine WpA_seq (WpA_block ?_)
      (refine WpA_sreg [] [] (by simp) fun K hK => ?_; simp (disch := omega) only [kc, prep1]; (with_reducible refine hK _ ?_))
      (refine WpA_sreg [] [] (by simp) fun K hK => ?_; simp (disch := omega) only [kc, prep1, Nat.reduceAdd, opS_makeSlice, newS, effA, ty_slice23, ty_zero2, ty_sz2, ty_by2, Int.natCast_nonneg, Value.oneCell', and_true, ifT, Nat.reduceEqDiff, opS_indexAddr, effR, natOf_pos, ty_slice22, updH, ty_sz23, opS_store, wrS, effD, k1, putCells, ifF, List.length_replicate, List.all_replicate, isPure, List.length_map, k3, killTV, killAV, Nat.reduceBEq]; (with_reducible refine hK _ ?_))
      refine WpA.weak (Weak_sub (tm := [slM (mat n c f), jk, jk, jk, jk, .raw (.int .i64 (c : Int)), jk, .one (.sl 21 0 0 n), .raw (.int .i64 (i : Int)), jk, jk, jk, jk, jk, jk, jk, jk, jk, jk, jk, jk, jk, jk, .raw (.int .i64 (n : Int)), .raw (.int .i64 (i : Int)), jk, jk, jk, jk, jk, jk, jk, jk, jk, jk, jk, jk, jk, jk, jk, jk, jk, jk, jk, jk, jk, jk, jk, jk, jk, jk, jk, jk, jk, jk, jk, jk, jk, jk, jk, jk, jk, jk]) (l := [(21, kI 21 n c (i + 1) (part f i 0))]) ⟨?_, trivial⟩ (by simp [wkL, okTV, okAV])) ?_
      · first | exact k4 | rfl
      (refine WpA_sreg [] [] (by simp) fun K hK => ?_; simp (disch := omega) only [kc, prep1, Nat.reduceAdd, slM, Hm, opS_indexAddr, effR, natOf_pos, ty_slice22, ty_sz23, ifT, k5, packT, ty_agg23, opS_len, ty_slice23, ofConst, Value.oneCell']; (with_reducible refine hK _ ?_))
      refine WpA_forb (G := FiG c) (fun g => ⟨[slM (mat n c f), jk, jk, jk, jk, .raw (.int .i64 (c : Int)), jk, .one (.sl 21 0 0 n), .raw (.int .i64 (i : Int)), jk, jk, jk, jk, jk, jk, jk, jk, jk, jk, jk, jk, jk, jk, .raw (.int .i64 (n : Int)), .raw (.int .i64 (i : Int)), jk, jk, jk, jk, jk, jk, jk, jk, jk, jk, jk, .raw (.int .i64 (c : Int)), .raw (.int .i64 (g.i : Int)), jk, jk, jk, jk, jk, jk, jk, jk, jk, jk, jk, jk, jk, jk, jk, jk, jk, jk, jk, jk, jk, jk, jk, jk, jk], Hm [(21, kI 21 n c (i + 1) (part f i g.i))]⟩) (fun g => c - g.i) ⟨0, by omega⟩ ?_ ?_
      · refine Weak_sub ⟨rfl, trivial⟩ ?_
        simp [wkL, okTV, okAV]
      · rintro ⟨j, hj⟩
        simp only
        by_cases hm3 : j < c
        · have hjr := rowF_get (f i) hm3
          have hz := hf i j hm hm3
          have cI := Int64_C (f i j) (hz.sz (by omega))
          rw [i64R, if_pos (show -9223372036854775808 ≤ f i j ∧ f i j ≤ 9223372036854775807 from hz)] at cI
          have q7 := mxIr_get (n := i + 1) c (part f i j) (i := i) (by omega)
          have q8 := rowF_get (part f i j i) hm3
          (refine WpA_sreg [] [] (by simp) fun K hK => ?_; simp (disch := omega) only [kc, prep1, slM, Hm, effM, evBin, decT]; (with_reducible refine hK _ ?_))
          refine WpA_seq (WpA_cond rfl (fun _ => WpA_skip ?_) (fun h => by simp at h <;> omega))
          refine WpA_seq (WpA_block ?_)
          (refine WpA_sreg [] [] (by simp) fun K hK => ?_; simp (disch := omega) only [kc, prep1]; (with_reducible refine hK _ ?_))
          (refine WpA_sreg [⟨7, _, _, _, cI⟩] [] (by simp) fun K hK => ?_; simp (disch := omega) only [kc, tZ, CItem.a, prep1, Nat.reduceAdd, opS_indexAddr, effR, natOf_pos, ty_slice62, ls_get, hr, fR, ty_sz120, packT, ty_agg120, ty_slice120, hjr, fZ, ty_sz51, ty_agg51, Nat.le_refl, opS_call, newS, effA, List.find?_cons, evAll, norm, CallRes.plain, rawTV, rawAV, normOk, isPure, noRefTV, noRefAV, renTV, renAV, opS_extract, effM]; (with_reducible refine hK _ ?_))
          (refine WpA_seq (WpA_sreg [] [] (by simp) fun K hK => ?_); simp (disch := omega) only [kc, prep1, opS_un, effM, evUn]; (with_reducible refine hK _ ?_))
          refine WpA_cond rfl (fun h => by simp at h) (fun _ => WpA_skip ?_)
          show WpA _ _ _ _
          ((refine WpA_lreg [] [] (by simp) fun K hK => ?_); simp (disch := omega) only [kc, prep1, Nat.reduceAdd, opS_indexAddr, effR, natOf_pos, ty_slice22, ty_sz23, ifT, k5, packT, ty_agg23, ty_slice23, q7, ty_sz2, opS_store, wrS, effD, lc_get, fI, q8, cellsOf, Nat.le_refl, isPure, putCells, mxIr_set, killTV, killAV]; (with_reducible refine hK _ ?_))
          show WpA _ _ _ _
          ((refine WpA_lreg [] [] (by simp) fun K hK => ?_); simp (disch := omega) only [kc, prep1, effM, ofConst, Value.oneCell', evBin, wrapI]; (with_reducible refine hK _ ?_))
          refine ⟨⟨j + 1, by omega⟩, by simp only; omega, Weak_sub ⟨?_, trivial⟩ ?_⟩
          · show _ :: _ = _ :: _
            rw [mxIr_congr fun a b _ _ => part_step f i j a b]
          · simp [wkL, okTV, okAV]
        · have hjc : j = c := by omega
          subst hjc
          (refine WpA_sreg [] [] (by simp) fun K hK => ?_; simp (disch := omega) only [kc, prep1, slM, Hm, effM, evBin, decF]; (with_reducible refine hK _ ?_))
          refine WpA_seq (WpA_cond rfl (fun h => by simp at h <;> omega) (fun _ => WpA_exit ?_))
          show WpA _ _ _ _
          ((refine WpA_lreg [] [] (by simp) fun K hK => ?_); simp (disch := omega) only [kc, prep1, effM, ofConst, Value.oneCell', evBin, wrapI]; (with_reducible refine hK _ ?_))
          refine ⟨⟨i + 1, by omega⟩, by simp only; omega, Weak_sub ⟨?_, trivial⟩ ?_⟩
          · show _ :: _ = _ :: _
            rw [mxIr_congr fun a b _ hb => part_row f i a b hb]
          · simp [wkL, okTV, okAV]
    · have hin : i = n := by omega
      subst hin
      (refine WpA_sreg [] [] (by simp) fun K hK => ?_; simp (disch := omega) only [kc, prep1, slM, Hm, effM, evBin, decF]; (with_reducible refine hK _ ?_))
      refine WpA_seq (WpA_cond rfl (fun h => by simp at h <;> omega) (fun _ => WpA_exit ?_))
      show WpA _ _ _ _
      have e : kI 21 i c i (part f i 0) = mxI 21 i c f := by
        rw [kI_end]
        show _ :: _ = _ :: _
        rw [mxIr_congr fun a b ha _ => part_end f a b ha]
      rw [e]
      refine WpA.weak ((Weak_fz 21 (fzOk_mxI rfl)).trans (Weak_sub (tm := [jk, jk, jk, jk, jk, jk, jk, slI (mat i c f), jk, jk, jk, jk, jk, jk, jk, jk, jk, jk, jk, jk, jk, jk, jk, jk, jk, jk, jk, jk, jk, jk, jk, jk, jk, jk, jk, jk, jk, jk, jk, jk, jk, jk, jk, jk, jk, jk, jk, jk, jk, jk, jk, jk, jk, jk, jk, jk, jk, jk, jk, jk, jk, jk, jk]) (l := []) trivial (by simp [wkL, okTV, okAV]; exact (fzMI (H := Hm [(21, mxI 21 i c f)]) (d := 21) (n := i) (c := c) (f := f) rfl).symm))) ?_
      (refine WpA_sreg [] [] (by simp) fun K hK => ?_; simp (disch := omega) only [kc, prep1, Nat.reduceAdd, slI, Hm, ofConst, Value.oneCell']; (with_reducible refine hK _ ?_))
      (refine WpA_ret ⟨.inr rfl, ret_now rfl ?_ rfl⟩; simp (disch := omega) only [resA, Tryz.results69, resL, resOne, List.getElem?_cons_succ, List.getElem?_cons_zero, Option.bind_some, tvPair, Option.map_some])
structure RdcG (n : Nat) (f0 h T : Nat → Nat → Int) where
  f : Nat → Nat → Int
  t : Nat → Nat → Int
  s : Nat
  adds : Nat
  inv : RedI n f0 f t s adds
  rch : Rch n f t h T
theorem idF_sz (a b : Nat) : Sz (idF a b) 1 := by unfold idF; split <;> exact sz_lt (by decide) (by omega)
theorem rch_red {n : Nat} {f0 f t h T : Nat → Nat → Int} (hn1 : 1 ≤ n) (hn : n ≤ 8) (hd : dk f0 n ≤ 10000) (hr : Rch n f t h T) : ∀ s adds, RedI n f0 f t s adds → RedR h n := by
  induction hr with
  | done f t hc => exact fun s adds hI => hI.red hn1 hd hc
  | step f t h T c hc _ ih =>
    intro s adds hI
    cases c with
    | add i j => exact ih _ _ (hI.add hn hc).1
    | swp m => exact ih _ _ (hI.swap hn hc)
theorem mul_ch_sz {n : Nat} {f0 f t : Nat → Nat → Int} {s adds : Nat} (h : RedI n f0 f t s adds) (hn : n ≤ 8) {c : Ch} (hc : scanF f n = some c) : ∀ a b, a < n → b < n → Sz (chT f c a b) 42 := fun a b ha hb => by
  obtain ⟨hF, hi⟩ := scanF_some hc
  cases c with
  | add i j =>
    have hi : i < n := hi
    show Sz (adT i j (cF f i j) a b) 42
    rcases upd_cases idF j i (cF f i j) a b with e | e
    · unfold adT; rw [e]; exact (h.szc hn hi hF.1).mono (by omega)
    · unfold adT; rw [e]; exact (idF_sz a b).mono (by omega)
  | swp m => exact (idF_sz _ b).mono (by omega)
theorem cng_ch {n : Nat} (f : Nat → Nat → Int) {c : Ch} (hc : scanF f n = some c) : mat n n (cngF n f (chT f c)) = mat n n (chF f c) := by
  obtain ⟨hF, hi⟩ := scanF_some hc
  refine mat_congr fun a b ha hb => ?_
  cases c with
  | add i j => exact cng_add (by have := hF.1; omega) (by have : i < n := hi; have := hF.1; omega) f a b ha hb
  | swp m => exact cng_sw hi f a b ha hb
set_option maxRecDepth 100000 in
set_option maxHeartbeats 16000000 in
theorem Reduce_C (n : Nat) (f : Nat → Nat → Int) (hn1 : 1 ≤ n) (hn : n ≤ 8) (hb : Bd9 f) (hg : GoodP n f) :
    ∃ h T, RedR h n ∧ CallC Tryz.prog 38 [slM (mat n n f)] ⟨[], .tup [(false, [.p (.sl (ls (fR fI) (mat n n h)))]), (false, [.p (.sl (ls (fR fZ) (mat n n T)))]), (false, [.p (.raw (.int .i64 0))])]⟩ := by
  obtain ⟨hs, hp, hd⟩ := hg
  have hst : RedI n f f idF 0 0 := RedI.start hn1 hn hs hp (fun a b => by have := hb a b; omega) (fun a b _ _ => idF_sz a b)
  have hdk : dk f n ≤ 10000 := by
    have := (pos_dk hp (n - 1) (by omega)).2
    rw [show n - 1 + 1 = n by omega] at this
    omega
  obtain ⟨h, T, hr⟩ := rch_exists (f0 := f) hn _ f idF 0 0 (Nat.le_refl _) hst
  have hred := rch_red hn1 hn hdk hr 0 0 hst
  refine ⟨h, T, hred, ?_⟩
  have hI9 : ∀ i j : Nat, I64 (f i j) := hb.i64
  have hsz : ∀ i j, i < n → j < n → Sz (f i j) 1024 := fun i j _ _ => (hI9 i j).sz (by omega)
  obtain ⟨e, he, c1⟩ := Validate_C n n f hn1 (by omega) hn1 (by omega) hsz
  have he0 : e = 0 := he.2 ⟨rfl, hn, hs, hp⟩
  subst he0
  have c2 := small8_C n f hn1 (by omega) hsz
  rw [decide_eq_true hd] at c2
  have c3 := Copy_C n n f (by omega) hn1 (by omega) (fun i j hi hj => (hsz i j hi hj).mono (by omega))
  have c4 := Identity_C n hn1 (by omega)
  have hml := mat_len n n f
  refine callC_of Tryz.func38 rfl (by kernel_rfl) ?_; rw [Tryz.ntmps38]
  (refine WpA_sreg [] [] (by simp) fun K hK => ?_; simp (disch := omega) only [kc, prep1, Nat.reduceAdd, slM, List.replicate, ofConst, Value.oneCell']; (with_reducible refine hK _ ?_))
  (refine WpA_seq (WpA_sreg [⟨1, _, _, _, c1⟩] [] (by simp) fun K hK => ?_); simp (disch := omega) only [kc, slM, CItem.a, prep1, Nat.reduceAdd, opS_call, newS, effA, List.find?_cons, evAll, norm, CallRes.plain, rawTV, rawAV, normOk, noRefTV, noRefAV, renTV, renAV]; (with_reducible refine hK _ ?_))
  (refine WpA_sreg [] [] (by simp) fun K hK => ?_; simp (disch := omega) only [kc, prep1, effM, ofConst, Value.oneCell', evBin, decT]; (with_reducible refine hK _ ?_))
  refine WpA_cond rfl (fun h => by simp at h) (fun _ => WpA_skip ?_)
  show WpA _ _ _ _
  (refine WpA_seq (WpA_sreg [⟨1, _, _, _, c2⟩] [] (by simp) fun K hK => ?_); simp (disch := omega) only [kc, slM, CItem.a, prep1, Nat.reduceAdd, opS_call, newS, effA, List.find?_cons, evAll, norm, CallRes.plain, rawTV, rawAV, normOk, noRefTV, noRefAV, renTV, renAV, opS_un, effM, evUn]; (with_reducible refine hK _ ?_))
  refine WpA_cond rfl (fun h => by simp at h) (fun _ => WpA_skip ?_)
  show WpA _ _ _ _
  (refine WpA_sreg [⟨1, _, _, _, c3⟩] [] (by simp) fun K hK => ?_; simp (disch := omega) only [kc, slM, CItem.a, prep1, Nat.reduceAdd, opS_call, newS, effA, List.find?_cons, evAll, norm, CallRes.plain, List.isEmpty_cons, rawTV, rawAV, normOk, Bool.not_false, noRefTV, noRefAV, Bool.or_false, renTV, renAV, renO]; (with_reducible refine hK _ ?_))
  (refine WpA_sreg [⟨2, _, _, _, c4⟩] [] (by simp) fun K hK => ?_; simp (disch := omega) only [kc, CItem.a, prep1, Nat.reduceAdd, opS_len, effR, ty_slice62, ls_len, hml, opS_call, newS, effA, List.find?_cons, evAll, norm, CallRes.plain, List.isEmpty_cons, rawTV, rawAV, normOk, Bool.not_false, noRefTV, noRefAV, Bool.or_false, renTV, renAV, renO, updH, Nat.reduceEqDiff, opS_extract, effM]; (with_reducible refine hK _ ?_))
  refine WpA_forb (G := RdcG n f h T) (fun g => ⟨[jk, jk, jk, jk, jk, jk, slM (mat n n g.f), slM (mat n n g.t), jk, jk, jk, jk, jk, jk, jk, jk, jk, jk, jk, jk, jk, jk, jk, jk, jk, jk, jk, jk, jk, jk, jk, jk, jk, jk, jk, jk, jk, jk, jk, jk, jk, jk, jk, jk, jk, jk, jk, jk, jk], Hm []⟩) (fun g => muR n g.f g.s) ⟨f, idF, 0, 0, hst, hr⟩ ?_ ?_
  · refine (Weak_sub (tm := [jk, jk, jk, jk, jk, jk, .one (.sl 22 0 0 n), .one (.sl 26 0 0 n), jk, jk, jk, jk, jk, jk, jk, jk, jk, jk, jk, jk, jk, jk, jk, jk, jk, jk, jk, jk, jk, jk, jk, jk, jk, jk, jk, jk, jk, jk, jk, jk, jk, jk, jk, jk, jk, jk, jk, jk, jk]) (l := [(22, mxF 22 n n f), (26, mxF 26 n n idF)]) ⟨mxF_ren 0 22 n n _, mxF_ren 0 26 n n _, trivial⟩ (by simp [wkL, okTV, okAV])).trans ((Weak_fz 22 (fzOk_mx rfl)).trans ((Weak_sub (tm := [jk, jk, jk, jk, jk, jk, slM (mat n n f), .one (.sl 26 0 0 n), jk, jk, jk, jk, jk, jk, jk, jk, jk, jk, jk, jk, jk, jk, jk, jk, jk, jk, jk, jk, jk, jk, jk, jk, jk, jk, jk, jk, jk, jk, jk, jk, jk, jk, jk, jk, jk, jk, jk, jk, jk]) (l := [(26, mxF 26 n n idF)]) ⟨rfl, trivial⟩ (by
      simp [wkL, okTV, okAV]
      exact ⟨(fzM (H := Hm [(22, mxF 22 n n f), (26, mxF 26 n n idF)]) (d := 22) (n := n) (c := n) (f := f) rfl).symm, rfl⟩)).trans ((Weak_fz 26 (fzOk_mx rfl)).trans (Weak_sub trivial ?_))))
    simp [wkL, okTV, okAV]
    exact ⟨rfl, (fzM (H := Hm [(26, mxF 26 n n idF)]) (d := 26) (n := n) (c := n) (f := idF) rfl).symm⟩
  · rintro ⟨g, t, s, adds, hI, hrc⟩
    simp only
    have cs := step_C n g hn1 hn hI.dfn.pos (fun i j hi hj => (hI.szf hn hi hj).mono (by omega))
    cases hc : scanF g n with
    | none =>
      obtain ⟨rfl, rfl⟩ : g = h ∧ t = T := by
        cases hrc with
        | done _ _ _ => exact ⟨rfl, rfl⟩
        | step _ _ _ _ c hc' _ => rw [hc] at hc'; cases hc'
      have hes := ent_small hn1 hn hred
      have ct := ToInts_C n n g hn1 (by omega) hn1 (by omega) (fun i j hi hj => by have := hes i hi j hj; exact ⟨by omega, by omega⟩)
      rw [hc] at cs
      refine WpA_block ?_
      (refine WpA_sreg [⟨1, _, _, _, cs⟩] [] (by simp) fun K hK => ?_; simp (disch := omega) only [kc, slM, stT, CItem.a, prep1, Nat.reduceAdd, Hm, opS_call, newS, effA, List.find?_cons, evAll, norm, CallRes.plain, rawTV, rawAV, normOk, noRefTV, noRefAV, renTV, renAV, opS_extract, effM]; (with_reducible refine hK _ ?_))
      (refine WpA_seq (WpA_sreg [] [] (by simp) fun K hK => ?_); simp (disch := omega) only [kc, prep1, opS_un, effM, evUn, Bool.not_false]; (with_reducible refine hK _ ?_))
      refine WpA_cond rfl (fun _ => ?_) (fun h => by simp at h)
      (refine WpA_sreg [⟨1, _, _, _, ct⟩] [] (by simp) fun K hK => ?_; simp (disch := omega) only [kc, slM, CItem.a, prep1, Nat.reduceAdd, opS_call, newS, effA, List.find?_cons, evAll, norm, CallRes.plain, rawTV, rawAV, normOk, noRefTV, noRefAV, renTV, renAV, opS_extract, effM]; (with_reducible refine hK _ ?_))
      (refine WpA_sreg [] [] (by simp) fun K hK => ?_; simp (disch := omega) only [kc, prep1, Nat.reduceAdd, ofConst, Value.oneCell']; (with_reducible refine hK _ ?_))
      (refine WpA_ret ⟨.inr rfl, ret_now rfl ?_ rfl⟩; simp (disch := omega) only [resA, Tryz.results38, resL, resOne, List.getElem?_cons_succ, List.getElem?_cons_zero, Option.bind_some, tvPair, Option.map_some])
    | some c =>
      have hrc' : Rch n (chF g c) (mulF n t (chT g c)) h T := by
        cases hrc with
        | done _ _ hc' => rw [hc] at hc'; cases hc'
        | step _ _ _ _ c' hc' hr' =>
          rw [hc] at hc'
          injection hc' with hc'
          subst hc'
          exact hr'
      rw [hc] at cs
      have hch := mul_ch_sz hI hn hc
      have ha := hI.adds_le hn
      have cc := Congruent_C n g (chT g c) hn1 (by omega) (fun i j hi hj => (hI.szf hn hi hj).mono (by omega)) (fun i j hi hj => (hch i j hi hj).mono (by omega))
      rw [cng_ch g hc] at cc
      have cp := Product_M n n n t (chT g c) hn1 (by omega) hn1 (by omega) hn1 (by omega) (fun i j hi hj => (hI.szt i j hi hj).mono (by omega)) (fun i j hi hj => (hch i j hi hj).mono (by omega))
      refine WpA_block ?_
      (refine WpA_sreg [⟨1, _, _, _, cs⟩] [] (by simp) fun K hK => ?_; simp (disch := omega) only [kc, slM, stT, CItem.a, prep1, Nat.reduceAdd, Hm, opS_call, newS, effA, List.find?_cons, evAll, norm, CallRes.plain, rawTV, rawAV, normOk, noRefTV, noRefAV, renTV, renAV, opS_extract, effM]; (with_reducible refine hK _ ?_))
      (refine WpA_seq (WpA_sreg [] [] (by simp) fun K hK => ?_); simp (disch := omega) only [kc, prep1, opS_un, effM, evUn]; (with_reducible refine hK _ ?_))
      refine WpA_cond rfl (fun h => by simp at h) (fun _ => WpA_skip ?_)
      show WpA _ _ _ _
      ((refine WpA_lreg [⟨2, _, _, _, cc⟩, ⟨5, _, _, _, cp⟩] [] (by simp) fun K hK => ?_); simp (disch := omega) only [kc, slM, CItem.a, prep1, Nat.reduceAdd, opS_call, newS, effA, List.find?_cons, evAll, norm, CallRes.plain, rawTV, rawAV, normOk, noRefTV, noRefAV, renTV, renAV, Nat.reduceBEq]; (with_reducible refine hK _ ?_))
      cases c with
      | add i j =>
        refine ⟨⟨_, _, s, adds + 1, (hI.add hn hc).1, hrc'⟩, hI.mu_add hn hc, Weak_sub trivial ?_⟩
        simp [wkL, okTV, okAV]; exact ⟨rfl, rfl⟩
      | swp m =>
        refine ⟨⟨_, _, s + 1, adds, hI.swap hn hc, hrc'⟩, hI.mu_swap hn hc, Weak_sub trivial ?_⟩
        simp [wkL, okTV, okAV]; exact ⟨rfl, rfl⟩
theorem diag_bk {f : Nat → Nat → Int} (h0 : ∀ a b, a ≠ b → f a b = 0) (h1 : ∀ a, 0 < f a a) : ∀ k, (0 < dk f k ∧ ∀ t, t < k → 0 < dk f (t + 1)) ∧ ∀ a b, k ≤ a → k ≤ b → bk f k a b = dk f k * f a b
  | 0 => ⟨⟨by rw [dk_zero]; omega, fun t ht => by omega⟩, fun a b _ _ => by rw [bk_zero, dk_zero, Int.one_mul]⟩
  | k + 1 => by
    obtain ⟨⟨p0, p1⟩, p2⟩ := diag_bk h0 h1 k
    have e : dk f (k + 1) = dk f k * f k k := by rw [dk_succ, p2 k k (by omega) (by omega)]
    have hpos : 0 < dk f (k + 1) := by rw [e]; exact Int.mul_pos p0 (h1 k)
    refine ⟨⟨hpos, fun t ht => ?_⟩, fun a b ha hb => ?_⟩
    · by_cases et : t = k
      · subst et; exact hpos
      · exact p1 t (by omega)
    · have s := sylv f k (fun t ht => by have := p1 t ht; omega) a b
      rw [p2 a b (by omega) (by omega), p2 a k (by omega) (by omega), h0 a k (by omega), Int.mul_zero, Int.zero_mul, Int.sub_zero] at s
      refine Int.eq_of_mul_eq_mul_left (show dk f k ≠ 0 by omega) ?_
      rw [s]; exact Int.mul_left_comm _ _ _
theorem diag_le {f : Nat → Nat → Int} (h0 : ∀ a b, a ≠ b → f a b = 0) (h1 : ∀ a, 0 < f a a) (h2 : ∀ a, f a a ≤ 2) : ∀ k, dk f k ≤ 2 ^ k
  | 0 => by rw [dk_zero]; decide
  | k + 1 => by
    obtain ⟨⟨p0, _⟩, p2⟩ := diag_bk h0 h1 k
    rw [dk_succ, p2 k k (by omega) (by omega), Int.pow_succ]
    have ih := diag_le h0 h1 h2 k
    exact Int.mul_le_mul ih (h2 k) (Int.le_of_lt (h1 k)) (Int.le_trans (Int.le_of_lt p0) ih)
theorem dg2_good (L : List Int) (p n : Nat) (hn1 : 1 ≤ n) (hn : n ≤ 8) : GoodP n (dgF L p 2) := by
  have h0 : ∀ a b, a ≠ b → dgF L p 2 a b = 0 := fun a b h => by unfold dgF; rw [if_neg h]
  have h1 : ∀ a, 0 < dgF L p 2 a a := fun a => by unfold dgF; rw [if_pos rfl]; omega
  have h2 : ∀ a, dgF L p 2 a a ≤ 2 := fun a => by
    unfold dgF
    rw [if_pos rfl]
    have := belF_lt (n := 2) L (adv L p a) (by omega)
    omega
  have hpos : ∀ k, 0 < dk (dgF L p 2) (k + 1) := fun k => (diag_bk h0 h1 (k + 1)).1.1
  have hdet : ∀ k, detF (k + 1) (dgF L p 2) = dk (dgF L p 2) (k + 1) := fun k => detF_dk fun t _ => by have := hpos t; omega
  refine ⟨fun a _ b _ => ?_, fun k _ => by rw [hdet]; exact hpos k, ?_⟩
  · by_cases e : a = b
    · rw [e]
    · rw [h0 a b e, h0 b a (Ne.symm e)]
  · have e := hdet (n - 1)
    rw [show n - 1 + 1 = n by omega] at e
    rw [e]
    have h3 := diag_le h0 h1 h2 n
    have h4 : (2 : Int) ^ n ≤ 2 ^ 8 := by
      have := Nat.pow_le_pow_right (show 0 < 2 by omega) hn
      exact_mod_cast this
    have h5 : (2 : Int) ^ 8 = 256 := by decide
    omega
theorem gramF_good (kind : Nat) (L : List Int) (n : Nat) (hn1 : 1 ≤ n) (hn : n ≤ 8) : GoodP n (gramF kind L n) ∧ Bd9 (gramF kind L n) := by
  unfold gramF
  split
  · rename_i h; exact ⟨h, rawG_bd kind L n⟩
  · exact ⟨dg2_good L _ n hn1 hn, dgF_bd (by omega) (by omega)⟩
set_option maxRecDepth 100000 in
set_option maxHeartbeats 16000000 in
theorem Form_C (dim kind : Nat) (L B : List Int) (most n : Nat) (hL : I8 L) (hdim : dim ≤ 255) (hkind : kind ≤ 255) (hm1 : 1 ≤ most) (hm8 : most ≤ 8) (hn : n = 1 + dim % most) :
    ∃ h, RedR h n ∧ CallC Tryz.prog 13 [tL dim kind L B, .raw (.int .i64 (most : Int))] ⟨[], slI (mat n n h)⟩ := by
  have hn1 : 1 ≤ n := by omega
  have hn8 : n ≤ 8 := by have := Nat.mod_lt dim (show 0 < most by omega); omega
  have c1 := Gram_C dim kind L B most n hL hdim hkind hm1 hm8 hn
  obtain ⟨hg, hb⟩ := gramF_good kind L n hn1 hn8
  obtain ⟨h, T, hr, c3⟩ := Reduce_C n (gramF kind L n) hn1 hn8 hb hg
  have c2 := Of_C n n (gramF kind L n) hn1 (by omega) hn1 (by omega) (fun i j _ _ => hb.i64 i j)
  refine ⟨h, hr, ?_⟩
  generalize gramF kind L n = gg at *
  refine callC_of Tryz.func13 rfl (by kernel_rfl) ?_; rw [Tryz.ntmps13]
  (refine WpA_sreg [] [] (by simp) fun K hK => ?_; simp (disch := omega) only [kc, prep1, tL, Nat.reduceAdd, List.replicate, opS_box, newS, effA, cellsOf, isPure, ifT, ofConst, Value.oneCell']; (with_reducible refine hK _ ?_))
  (refine WpA_sreg [⟨2, _, _, _, c1⟩, ⟨3, _, _, _, c2⟩, ⟨4, _, _, _, c3⟩] [] (by simp) fun K hK => ?_; simp (disch := omega) only [kc, tL, slI, slM, CItem.a, prep1, Nat.reduceAdd, effR, updH, packT, ty_sz26, ty_agg26, Nat.le_refl, opS_call, newS, effA, List.find?_cons, evAll, norm, CallRes.plain, rawTV, rawAV, normOk, isPure, noRefTV, noRefAV, renTV, renAV, Nat.reduceBEq, opS_extract, effM]; (with_reducible refine hK _ ?_))
  (refine WpA_sreg [] [] (by simp) fun K hK => ?_; simp (disch := omega) only [kc, prep1]; (with_reducible refine hK _ ?_))
  (refine WpA_ret ⟨.inr rfl, ret_now rfl ?_ rfl⟩; simp (disch := omega) only [resA, Tryz.results13, resOne, List.getElem?_cons_succ, List.getElem?_cons_zero, slI])
end Go.Proofs.YtennjcjjegbhgaaGreat
namespace Go.Proofs.YtennjcjjegbhgaaGreat
open Go.RowKit
theorem cmpL_self : ∀ x : List Int, cmpL x x = 0
  | [] => rfl
  | a :: x => by simp [cmpL, cmpL_self x]
theorem cmpL_eq : ∀ {x y : List Int}, cmpL x y = 0 → x = y
  | [], [], _ => rfl
  | [], _ :: _, h => by simp [cmpL] at h
  | _ :: _, [], h => by simp [cmpL] at h
  | a :: x, b :: y, h => by
    unfold cmpL at h
    split at h
    · omega
    · split at h
      · omega
      · rw [cmpL_eq h, show a = b from by omega]
theorem cmpL_range : ∀ (x y : List Int), cmpL x y = -1 ∨ cmpL x y = 0 ∨ cmpL x y = 1
  | [], [] => by simp [cmpL]
  | [], _ :: _ => by simp [cmpL]
  | _ :: _, [] => by simp [cmpL]
  | a :: x, b :: y => by
    have := cmpL_range x y
    unfold cmpL
    split
    · simp
    · split
      · simp
      · exact this
theorem cmpL_anti : ∀ (x y : List Int), cmpL y x = - cmpL x y
  | [], [] => by simp [cmpL]
  | [], _ :: _ => by simp [cmpL]
  | _ :: _, [] => by simp [cmpL]
  | a :: x, b :: y => by
    have := cmpL_anti x y
    unfold cmpL
    by_cases h1 : a < b
    · rw [if_pos h1, if_neg (by omega), if_pos h1]; rfl
    · by_cases h2 : b < a
      · rw [if_pos h2, if_neg h1, if_pos h2]
      · rw [if_neg h2, if_neg h1, if_neg h1, if_neg h2, this]
theorem cmpL_trans : ∀ {x y z : List Int}, cmpL x y < 0 → cmpL y z < 0 → cmpL x z < 0
  | [], [], _, h, _ => by simp [cmpL] at h
  | _ :: _, [], _, h, _ => by simp [cmpL] at h
  | [], _ :: _, [], _, h => by simp [cmpL] at h
  | [], _ :: _, _ :: _, _, _ => by simp [cmpL]
  | _ :: _, _ :: _, [], _, h => by simp [cmpL] at h
  | a :: x, b :: y, c :: z, h1, h2 => by
    unfold cmpL at h1 h2 ⊢
    by_cases p1 : a < b
    · by_cases p2 : b < c
      · rw [if_pos (by omega)]; omega
      · rw [if_neg p2] at h2
        by_cases p3 : c < b
        · rw [if_pos p3] at h2; omega
        · rw [if_pos (by omega)]; omega
    · rw [if_neg p1] at h1
      by_cases p3 : b < a
      · rw [if_pos p3] at h1; omega
      · rw [if_neg p3] at h1
        by_cases p2 : b < c
        · rw [if_pos (by omega)]; omega
        · rw [if_neg p2] at h2
          by_cases p4 : c < b
          · rw [if_pos p4] at h2; omega
          · rw [if_neg p4] at h2
            rw [if_neg (by omega), if_neg (by omega)]
            exact cmpL_trans h1 h2
theorem cmpN_eq (k1 : Int) (x : List Int) (k2 : Int) (y : List Int) : cmpN k1 x k2 y = if k1 < k2 then -1 else if k2 < k1 then 1 else cmpL x y := by
  have hr := cmpL_range x y
  unfold cmpN orL orL orL cmpI
  by_cases h1 : k1 < k2
  · simp [h1]
  · by_cases h2 : k2 < k1
    · simp [h1, h2]
    · simp [h1, h2]
      intro h; exact h.symm
theorem cmpN_lt {k1 k2 : Int} {x y : List Int} : cmpN k1 x k2 y < 0 ↔ k1 < k2 ∨ k1 = k2 ∧ cmpL x y < 0 := by
  rw [cmpN_eq]
  by_cases h1 : k1 < k2
  · rw [if_pos h1]; omega
  · by_cases h2 : k2 < k1
    · rw [if_neg h1, if_pos h2]; omega
    · rw [if_neg h1, if_neg h2]; omega
theorem cmpN_zero {k1 k2 : Int} {x y : List Int} : cmpN k1 x k2 y = 0 ↔ k1 = k2 ∧ x = y := by
  rw [cmpN_eq]
  by_cases h1 : k1 < k2
  · rw [if_pos h1]; omega
  · by_cases h2 : k2 < k1
    · rw [if_neg h1, if_pos h2]; omega
    · rw [if_neg h1, if_neg h2]
      constructor
      · intro h; exact ⟨by omega, cmpL_eq h⟩
      · rintro ⟨_, rfl⟩; exact cmpL_self _
theorem ltIt_iff {α : Type} (f : α → NItem) (x y : α) : ltOf (fun a b => cmpIt (f a) (f b)) x y = true ↔ (f x).key < (f y).key ∨ (f x).key = (f y).key ∧ cmpL (f x).vals (f y).vals < 0 := by
  unfold ltOf cmpIt
  rw [decide_eq_true_iff, cmpN_lt]
theorem swoIt {α : Type} (f : α → NItem) : Sort.SWO (ltOf fun a b => cmpIt (f a) (f b)) where
  irrefl x := by
    rw [← Bool.not_eq_true, ltIt_iff, cmpL_self]; omega
  trans x y z h1 h2 := by
    rw [ltIt_iff] at *
    rcases h1 with h1 | ⟨h1, h1'⟩ <;> rcases h2 with h2 | ⟨h2, h2'⟩
    · omega
    · omega
    · omega
    · exact .inr ⟨by omega, cmpL_trans h1' h2'⟩
  ntrans x y z h1 h2 := by
    rw [← Bool.not_eq_true, ltIt_iff] at *
    intro h3
    rcases h3 with h3 | ⟨h3, h3'⟩
    · by_cases e1 : (f x).key < (f y).key
      · exact h1 (.inl e1)
      · exact h2 (.inl (by omega))
    · by_cases e1 : (f x).key < (f y).key
      · exact h1 (.inl e1)
      · by_cases e2 : (f y).key < (f z).key
        · exact h2 (.inl e2)
        · have q1 : ¬ cmpL (f x).vals (f y).vals < 0 := fun h => h1 (.inr ⟨by omega, h⟩)
          have q2 : ¬ cmpL (f y).vals (f z).vals < 0 := fun h => h2 (.inr ⟨by omega, h⟩)
          have a1 := cmpL_anti (f x).vals (f y).vals
          have a2 := cmpL_anti (f y).vals (f z).vals
          rcases cmpL_range (f x).vals (f y).vals with r | r | r
          · omega
          · rw [cmpL_eq r] at h3'; exact q2 h3'
          · rcases cmpL_range (f y).vals (f z).vals with s | s | s
            · omega
            · rw [← cmpL_eq s] at h3'; exact q1 h3'
            · have := cmpL_trans (x := (f z).vals) (y := (f y).vals) (z := (f x).vals) (by omega) (by omega)
              have a3 := cmpL_anti (f x).vals (f z).vals
              omega
end Go.Proofs.YtennjcjjegbhgaaGreat
namespace Go.Proofs
open Go.Shelf
def Tryz.sortK_ren : Go.Shelf.Ren := ⟨fun | 6 => 97 | 15 => 136 | 14 => 135 | 28 => 163 | 29 => 164 | 20 => 155 | 21 => 156 | 22 => 157 | 23 => 158 | 24 => 159 | 25 => 160 | 26 => 161 | 27 => 162 | 46 => 174 | 47 => 175 | 48 => 176 | 49 => 177 | 50 => 178 | 57 => 188 | n => n, fun | 22 => 79 | 24 => 83 | 25 => 78 | 3 => 3 | 39 => 93 | 0 => 0 | 53 => 92 | 55 => 43 | 4 => 4 | 46 => 170 | 45 => 169 | 50 => 141 | 5 => 5 | 9 => 9 | 66 => 183 | 70 => 187 | 76 => 194 | 77 => 195 | n => n, fun | n => n⟩
theorem Tryz.sortK : Go.Proofs.SlLaysF0.n6 Tryz.prog Tryz.sortK_ren := {
  mixed := by kernel_rfl
  f6 := ⟨Tryz.f97.name, by decide, Tryz.func97.trans (congrArg some (by kernel_rfl))⟩
  f14 := ⟨Tryz.f135.name, by decide, Tryz.func135.trans (congrArg some (by kernel_rfl))⟩
  f15 := Tryz.func136.trans (congrArg some (by kernel_rfl))
  f20 := ⟨Tryz.f155.name, by decide, Tryz.func155.trans (congrArg some (by kernel_rfl))⟩
  f21 := ⟨Tryz.f156.name, by decide, Tryz.func156.trans (congrArg some (by kernel_rfl))⟩
  f22 := ⟨Tryz.f157.name, by decide, Tryz.func157.trans (congrArg some (by kernel_rfl))⟩
  f23 := ⟨Tryz.f158.name, by decide, Tryz.func158.trans (congrArg some (by kernel_rfl))⟩
  f24 := ⟨Tryz.f159.name, by decide, Tryz.func159.trans (congrArg some (by kernel_rfl))⟩
  f25 := ⟨Tryz.f160.name, by decide, Tryz.func160.trans (congrArg some (by kernel_rfl))⟩
  f26 := ⟨Tryz.f161.name, by decide, Tryz.func161.trans (congrArg some (by kernel_rfl))⟩
  f27 := ⟨Tryz.f162.name, by decide, Tryz.func162.trans (congrArg some (by kernel_rfl))⟩
  f28 := Tryz.func163.trans (congrArg some (by kernel_rfl))
  f29 := Tryz.func164.trans (congrArg some (by kernel_rfl))
  f46 := ⟨Tryz.f174.name, by decide, Tryz.func174.trans (congrArg some (by kernel_rfl))⟩
  f47 := Tryz.func175.trans (congrArg some (by kernel_rfl))
  f48 := Tryz.func176.trans (congrArg some (by kernel_rfl))
  f49 := ⟨Tryz.f177.name, by decide, Tryz.func177.trans (congrArg some (by kernel_rfl))⟩
  f50 := ⟨Tryz.f178.name, by decide, Tryz.func178.trans (congrArg some (by kernel_rfl))⟩
  f57 := ⟨Tryz.f188.name, by decide, Tryz.func188.trans (congrArg some (by kernel_rfl))⟩
  t0 := Tryz.underlying0
  a0 := Tryz.isAgg0
  z0 := Tryz.sizeOf0
  v0 := Tryz.zeroValue0
  t3 := Tryz.underlying3
  a3 := Tryz.isAgg3
  z3 := Tryz.sizeOf3
  v3 := Tryz.zeroValue3
  t4 := Tryz.underlying4
  a4 := Tryz.isAgg4
  z4 := Tryz.sizeOf4
  v4 := Tryz.zeroValue4
  t5 := Tryz.underlying5
  a5 := Tryz.isAgg5
  z5 := Tryz.sizeOf5
  v5 := Tryz.zeroValue5
  t9 := Tryz.underlying9
  a9 := Tryz.isAgg9
  z9 := Tryz.sizeOf9
  v9 := Tryz.zeroValue9
  t22 := Tryz.underlying79
  a22 := Tryz.isAgg79
  z22 := Tryz.sizeOf79
  v22 := Tryz.zeroValue79
  t25 := Tryz.underlying78
  a25 := Tryz.isAgg78
  z25 := Tryz.sizeOf78
  v25 := Tryz.zeroValue78
  t39 := Tryz.underlying93
  a39 := Tryz.isAgg93
  z39 := Tryz.sizeOf93
  v39 := Tryz.zeroValue93
  t45 := Tryz.underlying169
  a45 := Tryz.isAgg169
  z45 := Tryz.sizeOf169
  v45 := Tryz.zeroValue169
  t46 := Tryz.underlying170
  a46 := Tryz.isAgg170
  z46 := Tryz.sizeOf170
  v46 := Tryz.zeroValue170
  t50 := Tryz.underlying141
  a50 := Tryz.isAgg141
  z50 := Tryz.sizeOf141
  v50 := Tryz.zeroValue141
  t53 := Tryz.underlying92
  a53 := Tryz.isAgg92
  z53 := Tryz.sizeOf92
  v53 := Tryz.zeroValue92
  t55 := Tryz.underlying43
  a55 := Tryz.isAgg43
  z55 := Tryz.sizeOf43
  v55 := Tryz.zeroValue43
  t66 := Tryz.underlying183
  a66 := Tryz.isAgg183
  z66 := Tryz.sizeOf183
  v66 := Tryz.zeroValue183
  t70 := Tryz.underlying187
  a70 := Tryz.isAgg187
  z70 := Tryz.sizeOf187
  v70 := Tryz.zeroValue187
  t76 := Tryz.underlying194
  a76 := Tryz.isAgg194
  z76 := Tryz.sizeOf194
  v76 := Tryz.zeroValue194
  t77 := Tryz.underlying195
  a77 := Tryz.isAgg195
  z77 := Tryz.sizeOf195
  v77 := Tryz.zeroValue195 }
end Go.Proofs
namespace Go.Proofs.YtennjcjjegbhgaaGreat
open Go.RowKit
open Go.Sort (flatK putRowK HoldsK get_flatK size_flatK)
def encIt (it : NItem) : List Value := [.int .i64 it.key, .slice it.at_ it.vals.length it.cap]
theorem rowIs_putRow {w : World} {g t N : Nat} {f : Nat → Value} (h : w.rowIs g t N f) (d : Array Value) : (Sort.putRow id w g 0 d).rowIs g t N (fun k => if k < d.size then d[k]! else f k) := by
  obtain ⟨c, hb, hn, hc⟩ := h
  refine ⟨Sort.putCells id 0 d c, ?_, by simp [Sort.putCells, hn], fun i hi => ?_⟩
  · simp [Sort.putRow, Sort.mapBlock, Array.getElem?_modify, hb, Sort.onCells]
  · simp [Sort.putCells, hc i hi]
theorem putRow_block (w : World) (g : Nat) (d : Array Value) (k : Nat) (hk : k ≠ g) : (Sort.putRow id w g 0 d).heap[k]? = w.heap[k]? := by
  simp [Sort.putRow, Sort.mapBlock, Array.getElem?_modify, Ne.symm hk]
theorem putRow_size (w : World) (g : Nat) (d : Array Value) : (Sort.putRow id w g 0 d).heap.size = w.heap.size := by
  simp [Sort.putRow, Sort.mapBlock]
section
variable {α : Type} [Inhabited α] (enc : α → List Value) (w : World) (g n : Nat) (d : Array α) (os : Array Obj)
theorem sortW_gb : w.grownBy (sortWorldK enc 2 w g 0 n d os) (some g) := by
  unfold sortWorldK putRowK
  refine ⟨rfl, rfl, rfl, ?_, fun k hk hne => ?_⟩
  · show w.heap.size ≤ ((Sort.putRow id (Sort.ahead w n) g 0 _).heap ++ os).size
    rw [Array.size_append, putRow_size]
    exact Nat.le_add_right _ _
  · show ((Sort.putRow id (Sort.ahead w n) g 0 _).heap ++ os)[k]? = w.heap[k]?
    rw [Array.getElem?_append_left (by rw [putRow_size]; exact hk), putRow_block _ _ _ _ (fun e => hne (by rw [e]))]
    rfl
theorem sortW_row {t N : Nat} {f : Nat → Value} (h : w.rowIs g t N f) : (sortWorldK enc 2 w g 0 n d os).rowIs g t N (fun k => if k < (flatK enc 2 d).size then (flatK enc 2 d)[k]! else f k) := by
  have h1 := rowIs_putRow (w := Sort.ahead w n) h (flatK enc 2 d)
  refine h1.of_block ?_
  unfold sortWorldK putRowK
  show ((Sort.putRow id (Sort.ahead w n) g 0 _).heap ++ os)[g]? = _
  rw [Array.getElem?_append_left h1.lt]
end
structure OkIt (w : World) (g : Nat) where
  it : NItem
  ok : ItemOk w g it
instance (w : World) (g : Nat) : Inhabited (OkIt w g) := ⟨⟨⟨0, [], none, 0⟩, ⟨RdI.nil _ _ _, (by intro p h; cases h), by simp⟩⟩⟩
def encOk (w : World) (g : Nat) (x : OkIt w g) : List Value := encIt x.it
def arrOk (w : World) (g : Nat) (L : List NItem) (h : ∀ it ∈ L, ItemOk w g it) : Array (OkIt w g) := (L.attach.map fun x => (⟨x.1, h x.1 x.2⟩ : OkIt w g)).toArray
theorem arrOk_size {w : World} {g : Nat} {L : List NItem} (h : ∀ it ∈ L, ItemOk w g it) : (arrOk w g L h).size = L.length := by
  unfold arrOk; rw [List.size_toArray, List.length_map, List.length_attach]
theorem arrOk_list {w : World} {g : Nat} {L : List NItem} (h : ∀ it ∈ L, ItemOk w g it) : (arrOk w g L h).toList.map (fun x : OkIt w g => x.it) = L := by
  unfold arrOk
  rw [List.map_map]
  exact List.attach_map_subtype_val L
theorem flat_at {w : World} {g : Nat} (d : Array (OkIt w g)) {j : Nat} {it : NItem} (hj : (d.toList.map (fun x : OkIt w g => x.it))[j]? = some it) :
    (flatK (encOk w g) 2 d)[j * 2]! = .int .i64 it.key ∧ (flatK (encOk w g) 2 d)[j * 2 + 1]! = it.val := by
  have hlt : j < d.size := by have := (List.getElem?_eq_some_iff.1 hj).1; simpa using this
  have he : d[j]!.it = it := by
    have : d.toList[j]? = some d[j]! := by simp [hlt]
    rw [List.getElem?_map, this] at hj
    simpa using hj
  constructor
  · rw [get_flatK _ _ _ _ (by omega), show j * 2 / 2 = j from by omega, show j * 2 % 2 = 0 from by omega]
    simp [encOk, encIt, he]
  · rw [get_flatK _ _ _ _ (by omega), show (j * 2 + 1) / 2 = j from by omega, show (j * 2 + 1) % 2 = 1 from by omega]
    simp [encOk, encIt, he, NItem.val]
theorem holds_of_lst {w : World} {g N : Nat} {L : List NItem} (hL : Lst w g N L) (h : ∀ it ∈ L, ItemOk w g it) : HoldsK (encOk w g) 2 w g 0 (arrOk w g L h) := by
  obtain ⟨f, h1, h2, h3⟩ := hL
  intro t ht
  rw [size_flatK, arrOk_size] at ht
  have hj : t / 2 < L.length := by omega
  obtain ⟨it, hit⟩ := getElem?_of_lt hj
  have hfl := flat_at (arrOk w g L h) (j := t / 2) (it := it) (by rw [arrOk_list]; exact hit)
  obtain ⟨q1, q2⟩ := h3 _ _ hit
  rw [Nat.zero_add]
  refine ⟨?_, h1.frozen t⟩
  rw [h1.cell (by omega)]
  rcases Nat.mod_two_eq_zero_or_one t with e | e
  · rw [show t = t / 2 * 2 from by omega, hfl.1, q1]; rfl
  · rw [show t = t / 2 * 2 + 1 from by omega, hfl.2, q2]; rfl
theorem ItemOk.sortW {w : World} {g n : Nat} {d : Array (OkIt w g)} {os : Array Obj} {it : NItem} (h : ItemOk w g it) : ItemOk (sortWorldK (encOk w g) 2 w g 0 n d os) g it := h.gb (sortW_gb _ _ _ _ _ _)
theorem cmpLays_it (w : World) (g size : Nat) : CmpLays Tryz.prog 51 #[] (encOk w g) 2 (fun a b => cmpIt a.it b.it) g 0 size w := fun m os dk hs x y =>
  compareByNorm_any x.it.key y.it.key x.it.at_ y.it.at_ x.it.cap y.it.cap x.it.vals y.it.vals _ x.ok.sortW.rd y.ok.sortW.rd x.ok.le y.ok.le
def SortedL (L : List NItem) : Prop := ∀ (i j : Nat) a b, i < j → L[i]? = some a → L[j]? = some b → ¬ cmpIt b a < 0
theorem sortFunc_any (g cap : Nat) (L : List NItem) (w : World) (hL : Lst w g (cap * 2) L) (hlen : L.length < 4611686018427387904) (hok : ∀ it ∈ L, ItemOk w g it) :
    Calls Tryz.prog 97 #[.slice (some ⟨g, 0, none⟩) L.length cap, .func (Fn.func 51) #[] #[]] w fun e w' =>
      ∃ L', e = .returned (.tuple #[]) ∧ L'.Perm L ∧ SortedL L' ∧ Lst w' g (cap * 2) L' ∧ w.grownBy w' (some g) := by
  have eg : ∀ args w, (callFunc 51 args).run Tryz.prog w = .ok (.enter 51 args) w := enters_of Tryz.func51 (by kernel_rfl) rfl
  obtain ⟨f, h1, h2, h3⟩ := hL
  have hlt := h1.lt
  have hcon := AnyQ.slices_SortFunc (α := OkIt w g) Tryz.sortK 2 (fun w => by kernel_rfl) (fun w => by kernel_rfl) (encOk w g) (fun _ => rfl) (fun x v hv => by simp [encOk, encIt] at hv; rcases hv with rfl | rfl <;> rfl) (fun a b => cmpIt a.it b.it) (swoIt fun x : OkIt w g => x.it) 51 #[] g 0 cap (arrOk w g L hok) w eg (cmpLays_it w g _) (holds_of_lst ⟨f, h1, h2, h3⟩ hok) hlt (by rw [arrOk_size]; exact hlen)
  change Calls Tryz.prog 97 _ _ _ at hcon
  rw [arrOk_size] at hcon
  refine hcon.mono fun e w' ⟨he, d', n, os, hp, hs, hw⟩ => ?_
  obtain ⟨hsz, _, hperm⟩ := hp
  rw [arrOk_size] at hsz
  have hlen' : (d'.toList.map (fun x : OkIt w g => x.it)).length = L.length := by simp [hsz]
  refine ⟨d'.toList.map (fun x : OkIt w g => x.it), he, ?_, ?_, ?_, by rw [hw]; exact sortW_gb _ _ _ _ _ _⟩
  · have hp2 : d'.toList.Perm (arrOk w g L hok).toList := by
      have e1 : d'.extract 0 L.length = d' := by rw [← hsz]; simp
      have e2 : (arrOk w g L hok).extract 0 L.length = arrOk w g L hok := by
        have := arrOk_size hok
        rw [← this]; simp
      rw [e1, e2] at hperm
      exact hperm
    have := hp2.map (fun x : OkIt w g => x.it)
    rw [arrOk_list] at this
    exact this
  · intro i j a b hij ha hb
    have hj : j < d'.size := by have := (List.getElem?_eq_some_iff.1 hb).1; simpa using this
    have ea : d'[i]!.it = a := by
      have : d'.toList[i]? = some d'[i]! := by simp [show i < d'.size by omega]
      rw [List.getElem?_map, this] at ha; simpa using ha
    have eb : d'[j]!.it = b := by
      have : d'.toList[j]? = some d'[j]! := by simp [hj]
      rw [List.getElem?_map, this] at hb; simpa using hb
    have := hs i j (Nat.zero_le _) hij (by omega)
    unfold ltOf at this
    rw [decide_eq_false_iff_not] at this
    change ¬ cmpIt d'[j]!.it d'[i]!.it < 0 at this
    rw [ea, eb] at this
    exact this
  · rw [hw]
    refine ⟨_, sortW_row _ _ _ _ _ _ h1, by rw [hlen']; exact h2, fun j it hj => ?_⟩
    have hlt2 : j < d'.size := by have := (List.getElem?_eq_some_iff.1 hj).1; simpa using this
    obtain ⟨q1, q2⟩ := flat_at d' hj
    rw [if_pos (by rw [size_flatK]; omega), if_pos (by rw [size_flatK]; omega)]
    exact ⟨q1, q2⟩
set_option maxRecDepth 100000 in
set_option maxHeartbeats 2000000 in
theorem sort_any (sx g cap : Nat) (L : List NItem) (w : World) (hL : Lst w g (cap * 2) L) (hcap : L.length ≤ cap) (hlen : L.length ≤ 4611686018427387903) (hok : ∀ it ∈ L, ItemOk w g it)
    (hS : w.rowIs sx 81 2 (fun j => if j = 0 then .slice (some ⟨g, 0, none⟩) L.length cap else .func (Fn.func 51) #[] #[])) (hsx : sx ≠ g) :
    Calls Tryz.prog 52 #[.pointer (some ⟨sx, 0, none⟩)] w fun e w' =>
      ∃ L', e = .returned (.tuple #[]) ∧ L'.Perm L ∧ SortedL L' ∧ Lst w' g (cap * 2) (compact L') ∧ w'.cell? ⟨sx, 0, none⟩ = some (.slice (some ⟨g, 0, none⟩) (compact L').length cap) ∧ w'.rowIs sx 81 2 (fun j => if j = 0 then .slice (some ⟨g, 0, none⟩) (compact L').length cap else .func (Fn.func 51) #[] #[]) ∧
        (∀ k, k < w.heap.size → k ≠ g → k ≠ sx → w'.heap[k]? = w.heap[k]?) ∧ w.heap.size ≤ w'.heap.size ∧ w'.os = w.os ∧ w'.tape = w.tape ∧ w'.output = w.output := by
  have HL := Lib.hid hL
  have HOK := Lib.hid hok
  have HS := Lib.hid hS
  have HN := Lib.hid hsx
  have hglt : g < w.heap.size := by obtain ⟨f, h1, _⟩ := hL; exact h1.lt
  have hslt := hS.lt
  clear hL hok hS hsx
  go_enter Tryz.func52, Tryz.ntmps52
  go_wp2_with fail
  have c0 : (w.alloc (.cells #[.pointer (some ⟨sx, 0, none⟩)] 127)).drew.cell? ⟨w.heap.size, 0, none⟩ = some (.pointer (some ⟨sx, 0, none⟩)) := by go_simp
  have HE0 : Hid (Ext w (w.alloc (.cells #[.pointer (some ⟨sx, 0, none⟩)] 127)).drew) := Lib.hid ((Ext.refl _).alloc _).drew
  have hz0 : w.heap.size < (w.alloc (.cells #[.pointer (some ⟨sx, 0, none⟩)] 127)).drew.heap.size := by simp [World.drew]
  generalize w.alloc (.cells #[.pointer (some ⟨sx, 0, none⟩)] 127) = w1 at *
  refine region_still_tail 8 (by kernel_rfl) (by kernel_rfl) ?_
  simp only [List.take_succ_cons, List.take_zero, List.drop_succ_cons, List.drop_zero]
  generalize w1.drew = w2 at *
  have s0 : w2.cell? ⟨sx, 0, none⟩ = some (.slice (some ⟨g, 0, none⟩) L.length cap) := (rowIs_ext HS.out HE0.out).cell (by omega)
  have s1 : w2.cell? ⟨sx, 1, none⟩ = some (.func (Fn.func 51) #[] #[]) := (rowIs_ext HS.out HE0.out).cell (by omega)
  iterate 8 still_step
  refine wpStill_nil ?_
  have HC := Lib.hid (sortFunc_any g cap L w2 (HL.out.ext HE0.out) (by omega) (fun it hit => (HOK.out it hit).ext HE0.out))
  clear s1
  go_wp2_with fail
  refine HC.out.mono ?_
  rintro e w3 ⟨L', rfl, hperm, hsorted, hlst, hgb⟩
  have HP := Lib.hid hperm
  have HSO := Lib.hid hsorted
  have HLS := Lib.hid hlst
  have HG3 := Lib.hid hgb
  have HLL : Hid (L'.length = L.length) := Lib.hid hperm.length_eq
  clear hperm hsorted hlst hgb HC s0
  go_wp2_with fail
  have HOK3 : Hid (∀ it ∈ L', ItemOk w3 g it) := Lib.hid (fun it hit => ((HOK.out it (HP.out.subset hit)).ext HE0.out).gb HG3.out)
  have HS3 : Hid (w3.rowIs sx 81 2 (fun j => if j = 0 then .slice (some ⟨g, 0, none⟩) L.length cap else .func (Fn.func 51) #[] #[])) := Lib.hid ((rowIs_ext HS.out HE0.out).of_block (HG3.out.block sx (Nat.lt_of_lt_of_le hslt HE0.out.size) (fun e => HN.out (by injection e))))
  have d0 : w3.cell? ⟨w.heap.size, 0, none⟩ = some (.pointer (some ⟨sx, 0, none⟩)) := gb_cell HG3.out c0 (by show w.heap.size ≠ g; omega)
  have d1 : w3.cell? ⟨sx, 0, none⟩ = some (.slice (some ⟨g, 0, none⟩) L.length cap) := HS3.out.cell (by omega)
  have d2 : w3.frozen? ⟨sx, 0, none⟩ = false := HS3.out.frozen 0
  have hcon := compactFunc_any g cap L' w.heap.size sx 0 w3.drew (HLS.out.ext ((Ext.refl _).drew)) (by rw [HLL.out]; exact hcap) (by rw [HLL.out]; omega) (fun it hit => (HOK3.out it hit).ext ((Ext.refl _).drew)) d0 (show w3.drew.cell? ⟨sx, 0 + 1, none⟩ = _ from HS3.out.cell (i := 1) (by omega)) (by omega) HN.out
  rw [HLL.out] at hcon
  have HC := Lib.hid hcon
  clear hcon c0
  have HG4 : Hid (w2.grownBy w3.drew (some g)) := Lib.hid (gb_trans HG3.out (gb_of_ext ((Ext.refl _).drew) g))
  go_region_law (go_simp; go_at_call 98; refine HC.out.mono ?_; rintro e w5 ⟨rfl, hlst, hgb⟩; have HLS5 := Lib.hid hlst; have HG5 := Lib.hid hgb; have HS5 : Hid (w5.rowIs sx 81 2 (fun j => if j = 0 then .slice (some ⟨g, 0, none⟩) L.length cap else .func (Fn.func 51) #[] #[])) := Lib.hid (HS3.out.of_block (hgb.block sx HS3.out.lt (fun e => HN.out (by injection e)))); have f0 : w5.cell? ⟨w.heap.size, 0, none⟩ = some (.pointer (some ⟨sx, 0, none⟩)) := gb_cell hgb d0 (by show w.heap.size ≠ g; omega); have f1 : w5.cell? ⟨sx, 0, none⟩ = some (.slice (some ⟨g, 0, none⟩) L.length cap) := HS5.out.cell (by omega); have f2 : w5.frozen? ⟨sx, 0, none⟩ = false := HS5.out.frozen 0; clear hlst hgb)
  all_goals
    go_wp2_with fail
    go_end0
    have hrow := (HS5.out.set 0 (.slice (some ⟨g, 0, none⟩) (compact L').length cap)).congr (g := fun j => if j = 0 then .slice (some ⟨g, 0, none⟩) (compact L').length cap else .func (Fn.func 51) #[] #[]) (fun j hj => by
      match j, hj with
      | 0, _ => rfl
      | 1, _ => rfl)
    have hgg := gb_trans (gb_trans (gb_of_ext HE0.out g) HG4.out) HG5.out
    refine ⟨L', rfl, HP.out, HSO.out, ?_, hrow.cell (by omega), hrow, fun k hk hkg hks => ?_, ?_, hgg.os, hgg.tape, hgg.output⟩
    · obtain ⟨f, q1, q2, q3⟩ := HLS5.out
      exact ⟨f, q1.setOther (Ne.symm HN.out) _, q2, q3⟩
    · rw [Below.heap_setCell _ _ _ _ hks]
      exact hgg.block k hk (fun e => hkg (by injection e))
    · simpa [World.setCell] using hgg.size
end Go.Proofs.YtennjcjjegbhgaaGreat
