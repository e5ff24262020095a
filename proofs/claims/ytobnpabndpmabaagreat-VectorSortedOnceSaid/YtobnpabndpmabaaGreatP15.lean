/-
  Part 16 of a proof (walks and plain facts).
-/
import Derived.Test.YtobnpabndpmabaaGreatP14
import Derived.Lib.SmallJoins
import Derived.Shelf.SlSortCmp.WholeK
import Derived.Ground.SlsfProg
import Derived.Test.YtobnpabndpmabaaGreatProg
set_option linter.all false
namespace Go.Proofs.YtobnpabndpmabaaGreat
open Go.RowKit
theorem WpT_cut {P : Program} {b : Nat} {ty : TypeId} {c z : Code} {Q : Exit → AS → List PV → Prop} {s S : AS} {cs cs1 : List PV} (h1 : WpT P b ty c (thenT (fun s' k => Weak s' S ∧ k = cs1) Q) s cs) (h2 : WpT P b ty z Q S cs1) : WpT P b ty c (thenT (WpT P b ty z Q) Q) s cs := h1.mono fun e s' k h => by
  cases e with
  | normal =>
    obtain ⟨g1, rfl⟩ := h
    exact WpT.weak g1 h2
  | _ => exact h
def rawG (kind : Nat) (L : List Int) (n : Nat) : (Nat → Nat → Int) × Nat :=
  if kind % 8 < 4 then itI L (dgF L 0 6, adv L 0 n) n
  else if kind % 8 = 4 then (upd (chI false n n) 0 0 (chI false n n 0 0 + (belF L 0 3 : Int)), nextAt L 0)
  else if kind % 8 = 5 then (upd (chI true n n) (n - 1) (n - 1) (chI true n n (n - 1) (n - 1) + (belF L 0 2 : Int)), nextAt L 0)
  else if kind % 8 = 6 then (dgF L 0 9, adv L 0 n)
  else (dgF L 0 1, adv L 0 n)
open Classical in
noncomputable def gramF (kind : Nat) (L : List Int) (n : Nat) : Nat → Nat → Int := if GoodP n (rawG kind L n).1 then (rawG kind L n).1 else dgF L (rawG kind L n).2 2
theorem upd_cases (f : Nat → Nat → Int) (i j : Nat) (v : Int) (a b : Nat) : upd f i j v a b = v ∨ upd f i j v a b = f a b := by
  by_cases h : a = i ∧ b = j
  · obtain ⟨rfl, rfl⟩ := h; exact .inl (upd_at f a b v)
  · exact .inr (upd_ne (by omega))
def Bd9 (f : Nat → Nat → Int) : Prop := ∀ a b, -9 ≤ f a b ∧ f a b ≤ 9
theorem Bd9.i64 {f : Nat → Nat → Int} (h : Bd9 f) (a b : Nat) : I64 (f a b) := by have := h a b; exact ⟨by omega, by omega⟩
theorem Bd9.upd {f : Nat → Nat → Int} (h : Bd9 f) {i j : Nat} {v : Int} (h1 : -9 ≤ v) (h2 : v ≤ 9) : Bd9 (Go.Proofs.YtobnpabndpmabaaGreat.upd f i j v) := fun a b => by
  rcases upd_cases f i j v a b with e | e
  · rw [e]; exact ⟨h1, h2⟩
  · rw [e]; exact h a b
theorem dgF_bd {L : List Int} {a most : Nat} (h1 : 0 < most) (h2 : most ≤ 9) : Bd9 (dgF L a most) := fun i j => by
  unfold dgF
  split
  · have := belF_lt (n := most) L (adv L a i) h1; omega
  · omega
theorem tmod3 (x : Int) : -2 ≤ Int.tmod x 3 ∧ Int.tmod x 3 ≤ 2 := by
  have h1 := Int.tmod_lt_of_pos x (show (0 : Int) < 3 by omega)
  have h2 := Int.lt_tmod_of_pos x (show (0 : Int) < 3 by omega)
  omega
theorem itK_bd {L : List Int} {i : Nat} {s : (Nat → Nat → Int) × Nat} (h : Bd9 s.1) : ∀ k, Bd9 (itK L i s k).1
  | 0 => h
  | k + 1 => by
    have := tmod3 (L.getD (itK L i s k).2 0)
    exact ((itK_bd h k).upd (by omega) (by omega)).upd (by omega) (by omega)
theorem itI_bd {L : List Int} {s : (Nat → Nat → Int) × Nat} (h : Bd9 s.1) : ∀ i, Bd9 (itI L s i).1
  | 0 => h
  | i + 1 => itK_bd (itI_bd h i) i
theorem chI_bd (fork : Bool) (n : Nat) : ∀ i a b, -1 ≤ chI fork n i a b ∧ chI fork n i a b ≤ 2
  | 0, _, _ => by simp [chI]
  | i + 1, a, b => by
    have ih := chI_bd fork n i
    have u : ∀ (f : Nat → Nat → Int) (i j : Nat) (v : Int), (∀ a b, -1 ≤ f a b ∧ f a b ≤ 2) → -1 ≤ v ∧ v ≤ 2 → ∀ a b, -1 ≤ upd f i j v a b ∧ upd f i j v a b ≤ 2 := fun f i j v hf hv a b => by
      rcases upd_cases f i j v a b with e | e
      · rw [e]; exact hv
      · rw [e]; exact hf a b
    unfold chI
    split
    · exact u _ _ _ _ ih (by omega) a b
    · exact u _ _ _ _ (u _ _ _ _ (u _ _ _ _ ih (by omega)) (by omega)) (by omega) a b
theorem rawG_bd (kind : Nat) (L : List Int) (n : Nat) : Bd9 (rawG kind L n).1 := by
  have b3 := belF_lt (n := 3) L 0 (by omega)
  have b2 := belF_lt (n := 2) L 0 (by omega)
  have c1 := chI_bd false n n 0 0
  have c2 := chI_bd true n n (n - 1) (n - 1)
  unfold rawG
  split
  · exact itI_bd (dgF_bd (by omega) (by omega)) n
  · split
    · exact Bd9.upd (fun a b => by have := chI_bd false n n a b; omega) (by omega) (by omega)
    · split
      · exact Bd9.upd (fun a b => by have := chI_bd true n n a b; omega) (by omega) (by omega)
      · split
        · exact dgF_bd (by omega) (by omega)
        · exact dgF_bd (by omega) (by omega)
theorem rawG_le (kind : Nat) (L : List Int) (n : Nat) : (rawG kind L n).2 ≤ L.length := by
  unfold rawG
  split
  · exact itI_le (adv_le (by omega) n) n
  · split
    · exact nextAt_le (by omega)
    · split
      · exact nextAt_le (by omega)
      · split
        · exact adv_le (by omega) n
        · exact adv_le (by omega) n
abbrev tL (dim kind : Nat) (L B : List Int) : TV := .agg [.p (.raw (.int .u8 (dim : Int))), .p (.raw (.int .u8 (kind : Int))), .p (.sl (ls f8 L)), .p (.sl (ls f8 B))]
set_option maxRecDepth 100000 in
set_option maxHeartbeats 16000000 in
theorem Gram_C (dim kind : Nat) (L B : List Int) (most n : Nat) (hL : I8 L) (hdim : dim ≤ 255) (hkind : kind ≤ 255) (hm1 : 1 ≤ most) (hm8 : most ≤ 8) (hn : n = 1 + dim % most) :
    CallC Tryz.prog 29 [tL dim kind L B, .raw (.int .i64 (most : Int))] ⟨[], slI (mat n n (gramF kind L n))⟩ := by
  have hn1 : 1 ≤ n := by omega
  have hn8 : n ≤ 8 := by have := Nat.mod_lt dim (show 0 < most by omega); omega
  have e1 : Int.tmod (dim : Int) (most : Int) = ((dim % most : Nat) : Int) := (Int.ofNat_tmod dim most).symm
  have e2 : Int.tmod (kind : Int) 8 = ((kind % 8 : Nat) : Int) := (Int.ofNat_tmod kind 8).symm
  have e3 : 1 + ((dim % most : Nat) : Int) = (n : Int) := by omega
  refine callC_of Tryz.func29 rfl (by kernel_rfl) ?_; rw [Tryz.ntmps29]
  (refine WpA_sreg [] [] (by simp) fun K hK => ?_; simp (disch := omega) only [kc, prep1, tL, Nat.reduceAdd, List.replicate, opS_box, newS, effA, cellsOf, isPure, ifT, ofConst, Value.oneCell']; (with_reducible refine hK _ ?_))
  (refine WpA_sreg [] [] (by simp) fun K hK => ?_; simp (disch := omega) only [kc, prep1, Nat.reduceAdd, opS_fieldAddr, effR, ty_fld24_2, ty_sz22, updH, packT, ty_agg22, opS_build, ty_zero57, ty_plc57, Value.oneCell', fillA, cellsOf, Nat.reduceLeDiff, ifT, opS_box, newS, effA, isPure, Nat.reduceEqDiff]; (with_reducible refine hK _ ?_))
  refine WpA_lend 11 (cs := tcs L 0) rfl fun b => ?_
  refine WpT.weak (Weak_sub (tm := [jk, .raw (.int .i64 (most : Int)), .one (.ptr 2 0 0 0), jk, jk, tptr b, jk, jk, jk, jk, jk, jk, jk, jk, jk, jk, jk, jk, jk, jk, jk, jk, jk, jk, jk, jk, jk, jk, jk, jk, jk, jk, jk, jk, jk, jk, jk, jk, jk, jk, jk, jk, jk, jk, jk, jk, jk, jk, jk, jk, jk, jk, jk, jk, jk, jk, jk, jk, jk, jk, jk, jk, jk, jk, jk, jk, jk, jk, jk, jk, jk, jk, jk, jk]) (l := [(2, [⟨24, 4, [[.p (.raw (.int .u8 (dim : Int))), .p (.raw (.int .u8 (kind : Int))), .p (.sl (ls f8 L)), .p (.sl (ls f8 B))]]⟩])]) ⟨rfl, trivial⟩ (by simp [wkL, okTV, okAV, lnTV, lnAV])) ?_
  (refine WpT_sreg [] [] (by simp) fun K hK => ?_; simp (disch := omega) only [kc, prep1, Nat.reduceAdd, tptr, Hm, opS_fieldAddr, effR, ty_fld24_0, ty_sz5, Nat.add_zero, packT, ty_agg5, opS_conv, effM, Tryz.underlying5, ty_int3, wrapI, evBin, e1, ifT, ofConst, Value.oneCell', e3]; (with_reducible refine hK _ ?_))
  (refine WpT_sreg [] [] (by simp) fun K hK => ?_; simp (disch := omega) only [kc, prep1, ofConst, Value.oneCell']; (with_reducible refine hK _ ?_))
  (refine WpT_seq (WpT_sreg [] [] (by simp) fun K hK => ?_); simp (disch := omega) only [kc, prep1, Nat.reduceAdd, opS_fieldAddr, effR, ty_fld24_1, ty_sz5, packT, ty_agg5, effM, ofConst, Value.oneCell', evBin, e2, ifT]; (with_reducible refine hK _ ?_))
  have hraw := rawG_bd kind L n
  have hple := rawG_le kind L n
  refine WpT_cut (S := ⟨[jk, jk, jk, jk, jk, tptr b, .raw (.int .i64 (n : Int)), slI (mat n n (rawG kind L n).1), jk, jk, jk, jk, jk, jk, jk, jk, jk, jk, jk, jk, jk, jk, jk, jk, jk, jk, jk, jk, jk, jk, jk, jk, jk, jk, jk, jk, jk, jk, jk, jk, jk, jk, jk, jk, jk, jk, jk, jk, jk, jk, jk, jk, jk, jk, jk, jk, jk, jk, jk, jk, jk, jk, jk, jk, jk, jk, jk, jk, jk, jk, jk, jk, jk, jk], Hm []⟩) (cs1 := tcs L (rawG kind L n).2) ?_ ?_
  · have hk8 := Nat.mod_lt kind (show 0 < 8 by omega)
    have hG : kind % 8 < 4 → rawG kind L n = itI L (dgF L 0 6, adv L 0 n) n := fun h => by unfold rawG; rw [if_pos h]
    have cg := general_T b L 0 n hL (by omega) hn8
    have cha := chain_C n false hn8
    have chb := chain_C n true hn8
    have cb3 := Below_T b L 0 3 hL (by omega) (by omega) (by omega)
    have cb2 := Below_T b L 0 2 hL (by omega) (by omega) (by omega)
    have cd9 := diagonal_T b L 0 n 9 hL (by omega) hn8 (by omega) (by omega)
    have cd1 := diagonal_T b L 0 n 1 hL (by omega) hn8 (by omega) (by omega)
    rw [show ((3 : Nat) : Int) = 3 from rfl] at cb3
    rw [show ((2 : Nat) : Int) = 2 from rfl] at cb2
    rw [show ((9 : Nat) : Int) = 9 from rfl] at cd9
    rw [show ((1 : Nat) : Int) = 1 from rfl] at cd1
    have q3 := belF_lt (n := 3) L 0 (by omega)
    have q2 := belF_lt (n := 2) L 0 (by omega)
    have r1 := chI_bd false n n 0 0
    have r2 := chI_bd true n n (n - 1) (n - 1)
    have x0 : ((n : Int) - 1).toNat = n - 1 := by omega
    have x1 := spn_get (n := n) (i := 0) 35 n (by omega)
    have x2 := mxIr_get (n := n) n (chI false n n) (i := 0) (by omega)
    have x3 := rowF_get (m := n) (chI false n n 0) (j := 0) (by omega)
    have y1 := spn_get (n := n) (i := n - 1) 48 n (by omega)
    have y2 := mxIr_get (n := n) n (chI true n n) (i := n - 1) (by omega)
    have y3 := rowF_get (m := n) (chI true n n (n - 1)) (j := n - 1) (by omega)
    have hcase : kind % 8 = 0 ∨ kind % 8 = 1 ∨ kind % 8 = 2 ∨ kind % 8 = 3 ∨ kind % 8 = 4 ∨ kind % 8 = 5 ∨ kind % 8 = 6 ∨ kind % 8 = 7 := by omega
    rcases hcase with hkk | hkk | hkk | hkk | hkk | hkk | hkk | hkk
    · have hk : kind % 8 = 0 := by omega
      rw [hk, show ((0 : Nat) : Int) = 0 from rfl]
      refine WpT_block ?_
      (refine WpT_seq (WpT_sreg [] [] (by simp) fun K hK => ?_); simp (disch := omega) only [kc, prep1, effM, ofConst, Value.oneCell', evBin, decT]; (with_reducible refine hK _ ?_))
      refine WpT_cond rfl (fun _ => WpT_skip ?_) (fun h => by simp at h)
      show WpT _ _ _ _ _ _ _
      refine WpT_cond rfl (fun _ => ?_) (fun h => by simp at h)
      ((refine WpT_llent 2 cg [] [] (by kernel_rfl) (by rfl) (by rfl) (by simp) fun K hK => ?_); simp (disch := omega) only [kc, tptr, prep1, Nat.reduceAdd, opS_call, newS, effA, List.find?_cons, evAll, norm, CallRes.plain, List.isEmpty_cons, rawTV, rawAV, normOk, Bool.not_false, noRefTV, noRefAV, Bool.or_false, renTV, renAV, renO, Nat.reduceEqDiff]; (with_reducible refine hK _ ?_))
      rw [hG (by omega)]
      refine ⟨(Weak_sub (tm := [jk, jk, jk, jk, jk, tptr b, .raw (.int .i64 (n : Int)), .one (.sl 31 0 0 n), jk, jk, jk, jk, jk, jk, jk, jk, jk, jk, jk, jk, jk, jk, jk, jk, jk, jk, jk, jk, jk, jk, jk, jk, jk, jk, jk, jk, jk, jk, jk, jk, jk, jk, jk, jk, jk, jk, jk, jk, jk, jk, jk, jk, jk, jk, jk, jk, jk, jk, jk, jk, jk, jk, jk, jk, jk, jk, jk, jk, jk, jk, jk, jk, jk, jk]) (l := [(31, mxI 31 n n ((itI L (dgF L 0 6, adv L 0 n) n).1))]) ⟨mxI_ren 0 31 n n _, trivial⟩ (by simp [wkL, okTV, okAV])).trans ((Weak_fz 31 (fzOk_mxI rfl)).trans (Weak_sub (tm := [jk, jk, jk, jk, jk, tptr b, .raw (.int .i64 (n : Int)), slI (mat n n ((itI L (dgF L 0 6, adv L 0 n) n).1)), jk, jk, jk, jk, jk, jk, jk, jk, jk, jk, jk, jk, jk, jk, jk, jk, jk, jk, jk, jk, jk, jk, jk, jk, jk, jk, jk, jk, jk, jk, jk, jk, jk, jk, jk, jk, jk, jk, jk, jk, jk, jk, jk, jk, jk, jk, jk, jk, jk, jk, jk, jk, jk, jk, jk, jk, jk, jk, jk, jk, jk, jk, jk, jk, jk, jk]) (l := []) trivial (by
        simp [wkL, okTV, okAV]
        exact ⟨rfl, rfl, (fzMI (H := Hm [(31, mxI 31 n n ((itI L (dgF L 0 6, adv L 0 n) n).1))]) (d := 31) (n := n) (c := n) (f := (itI L (dgF L 0 6, adv L 0 n) n).1) rfl).symm⟩))), rfl⟩
    · have hk : kind % 8 = 1 := by omega
      rw [hk, show ((1 : Nat) : Int) = 1 from rfl]
      refine WpT_block ?_
      (refine WpT_seq (WpT_sreg [] [] (by simp) fun K hK => ?_); simp (disch := omega) only [kc, prep1, effM, ofConst, Value.oneCell', evBin, decF]; (with_reducible refine hK _ ?_))
      refine WpT_cond rfl (fun h => by simp at h) (fun _ => ?_)
      (refine WpT_sreg [] [] (by simp) fun K hK => ?_; simp (disch := omega) only [kc, prep1, effM, ofConst, Value.oneCell', evBin, decT]; (with_reducible refine hK _ ?_))
      refine WpT_cond rfl (fun _ => WpT_skip ?_) (fun h => by simp at h)
      show WpT _ _ _ _ _ _ _
      refine WpT_cond rfl (fun _ => ?_) (fun h => by simp at h)
      ((refine WpT_llent 2 cg [] [] (by kernel_rfl) (by rfl) (by rfl) (by simp) fun K hK => ?_); simp (disch := omega) only [kc, tptr, prep1, Nat.reduceAdd, opS_call, newS, effA, List.find?_cons, evAll, norm, CallRes.plain, List.isEmpty_cons, rawTV, rawAV, normOk, Bool.not_false, noRefTV, noRefAV, Bool.or_false, renTV, renAV, renO, Nat.reduceEqDiff]; (with_reducible refine hK _ ?_))
      rw [hG (by omega)]
      refine ⟨(Weak_sub (tm := [jk, jk, jk, jk, jk, tptr b, .raw (.int .i64 (n : Int)), .one (.sl 31 0 0 n), jk, jk, jk, jk, jk, jk, jk, jk, jk, jk, jk, jk, jk, jk, jk, jk, jk, jk, jk, jk, jk, jk, jk, jk, jk, jk, jk, jk, jk, jk, jk, jk, jk, jk, jk, jk, jk, jk, jk, jk, jk, jk, jk, jk, jk, jk, jk, jk, jk, jk, jk, jk, jk, jk, jk, jk, jk, jk, jk, jk, jk, jk, jk, jk, jk, jk]) (l := [(31, mxI 31 n n ((itI L (dgF L 0 6, adv L 0 n) n).1))]) ⟨mxI_ren 0 31 n n _, trivial⟩ (by simp [wkL, okTV, okAV])).trans ((Weak_fz 31 (fzOk_mxI rfl)).trans (Weak_sub (tm := [jk, jk, jk, jk, jk, tptr b, .raw (.int .i64 (n : Int)), slI (mat n n ((itI L (dgF L 0 6, adv L 0 n) n).1)), jk, jk, jk, jk, jk, jk, jk, jk, jk, jk, jk, jk, jk, jk, jk, jk, jk, jk, jk, jk, jk, jk, jk, jk, jk, jk, jk, jk, jk, jk, jk, jk, jk, jk, jk, jk, jk, jk, jk, jk, jk, jk, jk, jk, jk, jk, jk, jk, jk, jk, jk, jk, jk, jk, jk, jk, jk, jk, jk, jk, jk, jk, jk, jk, jk, jk]) (l := []) trivial (by
        simp [wkL, okTV, okAV]
        exact ⟨rfl, rfl, (fzMI (H := Hm [(31, mxI 31 n n ((itI L (dgF L 0 6, adv L 0 n) n).1))]) (d := 31) (n := n) (c := n) (f := (itI L (dgF L 0 6, adv L 0 n) n).1) rfl).symm⟩))), rfl⟩
    · have hk : kind % 8 = 2 := by omega
      rw [hk, show ((2 : Nat) : Int) = 2 from rfl]
      refine WpT_block ?_
      (refine WpT_seq (WpT_sreg [] [] (by simp) fun K hK => ?_); simp (disch := omega) only [kc, prep1, effM, ofConst, Value.oneCell', evBin, decF]; (with_reducible refine hK _ ?_))
      refine WpT_cond rfl (fun h => by simp at h) (fun _ => ?_)
      (refine WpT_sreg [] [] (by simp) fun K hK => ?_; simp (disch := omega) only [kc, prep1, effM, ofConst, Value.oneCell', evBin, decF]; (with_reducible refine hK _ ?_))
      refine WpT_cond rfl (fun h => by simp at h) (fun _ => ?_)
      (refine WpT_sreg [] [] (by simp) fun K hK => ?_; simp (disch := omega) only [kc, prep1, effM, ofConst, Value.oneCell', evBin, decT]; (with_reducible refine hK _ ?_))
      refine WpT_cond rfl (fun _ => WpT_skip ?_) (fun h => by simp at h)
      show WpT _ _ _ _ _ _ _
      refine WpT_cond rfl (fun _ => ?_) (fun h => by simp at h)
      ((refine WpT_llent 2 cg [] [] (by kernel_rfl) (by rfl) (by rfl) (by simp) fun K hK => ?_); simp (disch := omega) only [kc, tptr, prep1, Nat.reduceAdd, opS_call, newS, effA, List.find?_cons, evAll, norm, CallRes.plain, List.isEmpty_cons, rawTV, rawAV, normOk, Bool.not_false, noRefTV, noRefAV, Bool.or_false, renTV, renAV, renO, Nat.reduceEqDiff]; (with_reducible refine hK _ ?_))
      rw [hG (by omega)]
      refine ⟨(Weak_sub (tm := [jk, jk, jk, jk, jk, tptr b, .raw (.int .i64 (n : Int)), .one (.sl 31 0 0 n), jk, jk, jk, jk, jk, jk, jk, jk, jk, jk, jk, jk, jk, jk, jk, jk, jk, jk, jk, jk, jk, jk, jk, jk, jk, jk, jk, jk, jk, jk, jk, jk, jk, jk, jk, jk, jk, jk, jk, jk, jk, jk, jk, jk, jk, jk, jk, jk, jk, jk, jk, jk, jk, jk, jk, jk, jk, jk, jk, jk, jk, jk, jk, jk, jk, jk]) (l := [(31, mxI 31 n n ((itI L (dgF L 0 6, adv L 0 n) n).1))]) ⟨mxI_ren 0 31 n n _, trivial⟩ (by simp [wkL, okTV, okAV])).trans ((Weak_fz 31 (fzOk_mxI rfl)).trans (Weak_sub (tm := [jk, jk, jk, jk, jk, tptr b, .raw (.int .i64 (n : Int)), slI (mat n n ((itI L (dgF L 0 6, adv L 0 n) n).1)), jk, jk, jk, jk, jk, jk, jk, jk, jk, jk, jk, jk, jk, jk, jk, jk, jk, jk, jk, jk, jk, jk, jk, jk, jk, jk, jk, jk, jk, jk, jk, jk, jk, jk, jk, jk, jk, jk, jk, jk, jk, jk, jk, jk, jk, jk, jk, jk, jk, jk, jk, jk, jk, jk, jk, jk, jk, jk, jk, jk, jk, jk, jk, jk, jk, jk]) (l := []) trivial (by
        simp [wkL, okTV, okAV]
        exact ⟨rfl, rfl, (fzMI (H := Hm [(31, mxI 31 n n ((itI L (dgF L 0 6, adv L 0 n) n).1))]) (d := 31) (n := n) (c := n) (f := (itI L (dgF L 0 6, adv L 0 n) n).1) rfl).symm⟩))), rfl⟩
    · have hk : kind % 8 = 3 := by omega
      rw [hk, show ((3 : Nat) : Int) = 3 from rfl]
      refine WpT_block ?_
      (refine WpT_seq (WpT_sreg [] [] (by simp) fun K hK => ?_); simp (disch := omega) only [kc, prep1, effM, ofConst, Value.oneCell', evBin, decF]; (with_reducible refine hK _ ?_))
      refine WpT_cond rfl (fun h => by simp at h) (fun _ => ?_)
      (refine WpT_sreg [] [] (by simp) fun K hK => ?_; simp (disch := omega) only [kc, prep1, effM, ofConst, Value.oneCell', evBin, decF]; (with_reducible refine hK _ ?_))
      refine WpT_cond rfl (fun h => by simp at h) (fun _ => ?_)
      (refine WpT_sreg [] [] (by simp) fun K hK => ?_; simp (disch := omega) only [kc, prep1, effM, ofConst, Value.oneCell', evBin, decF]; (with_reducible refine hK _ ?_))
      refine WpT_cond rfl (fun h => by simp at h) (fun _ => ?_)
      ((refine WpT_lreg [] [] (by simp) fun K hK => ?_); simp (disch := omega) only [kc, prep1, effM, ofConst, Value.oneCell', evBin, decT]; (with_reducible refine hK _ ?_))
      show WpT _ _ _ _ _ _ _
      refine WpT_cond rfl (fun _ => ?_) (fun h => by simp at h)
      ((refine WpT_llent 2 cg [] [] (by kernel_rfl) (by rfl) (by rfl) (by simp) fun K hK => ?_); simp (disch := omega) only [kc, tptr, prep1, Nat.reduceAdd, opS_call, newS, effA, List.find?_cons, evAll, norm, CallRes.plain, List.isEmpty_cons, rawTV, rawAV, normOk, Bool.not_false, noRefTV, noRefAV, Bool.or_false, renTV, renAV, renO, Nat.reduceEqDiff]; (with_reducible refine hK _ ?_))
      rw [hG (by omega)]
      refine ⟨(Weak_sub (tm := [jk, jk, jk, jk, jk, tptr b, .raw (.int .i64 (n : Int)), .one (.sl 31 0 0 n), jk, jk, jk, jk, jk, jk, jk, jk, jk, jk, jk, jk, jk, jk, jk, jk, jk, jk, jk, jk, jk, jk, jk, jk, jk, jk, jk, jk, jk, jk, jk, jk, jk, jk, jk, jk, jk, jk, jk, jk, jk, jk, jk, jk, jk, jk, jk, jk, jk, jk, jk, jk, jk, jk, jk, jk, jk, jk, jk, jk, jk, jk, jk, jk, jk, jk]) (l := [(31, mxI 31 n n ((itI L (dgF L 0 6, adv L 0 n) n).1))]) ⟨mxI_ren 0 31 n n _, trivial⟩ (by simp [wkL, okTV, okAV])).trans ((Weak_fz 31 (fzOk_mxI rfl)).trans (Weak_sub (tm := [jk, jk, jk, jk, jk, tptr b, .raw (.int .i64 (n : Int)), slI (mat n n ((itI L (dgF L 0 6, adv L 0 n) n).1)), jk, jk, jk, jk, jk, jk, jk, jk, jk, jk, jk, jk, jk, jk, jk, jk, jk, jk, jk, jk, jk, jk, jk, jk, jk, jk, jk, jk, jk, jk, jk, jk, jk, jk, jk, jk, jk, jk, jk, jk, jk, jk, jk, jk, jk, jk, jk, jk, jk, jk, jk, jk, jk, jk, jk, jk, jk, jk, jk, jk, jk, jk, jk, jk, jk, jk]) (l := []) trivial (by
        simp [wkL, okTV, okAV]
        exact ⟨rfl, rfl, (fzMI (H := Hm [(31, mxI 31 n n ((itI L (dgF L 0 6, adv L 0 n) n).1))]) (d := 31) (n := n) (c := n) (f := (itI L (dgF L 0 6, adv L 0 n) n).1) rfl).symm⟩))), rfl⟩
    · have hk : kind % 8 = 4 := by omega
      rw [hk, show ((4 : Nat) : Int) = 4 from rfl]
      refine WpT_block ?_
      (refine WpT_seq (WpT_sreg [] [] (by simp) fun K hK => ?_); simp (disch := omega) only [kc, prep1, effM, ofConst, Value.oneCell', evBin, decF]; (with_reducible refine hK _ ?_))
      refine WpT_cond rfl (fun h => by simp at h) (fun _ => ?_)
      (refine WpT_sreg [] [] (by simp) fun K hK => ?_; simp (disch := omega) only [kc, prep1, effM, ofConst, Value.oneCell', evBin, decF]; (with_reducible refine hK _ ?_))
      refine WpT_cond rfl (fun h => by simp at h) (fun _ => ?_)
      (refine WpT_sreg [] [] (by simp) fun K hK => ?_; simp (disch := omega) only [kc, prep1, effM, ofConst, Value.oneCell', evBin, decF]; (with_reducible refine hK _ ?_))
      refine WpT_cond rfl (fun h => by simp at h) (fun _ => ?_)
      ((refine WpT_lreg [] [] (by simp) fun K hK => ?_); simp (disch := omega) only [kc, prep1, effM, ofConst, Value.oneCell', evBin, decF]; (with_reducible refine hK _ ?_))
      show WpT _ _ _ _ _ _ _
      refine WpT_cond rfl (fun h => by simp at h) (fun _ => ?_)
      (refine WpT_sreg [] [] (by simp) fun K hK => ?_; simp (disch := omega) only [kc, prep1, effM, ofConst, Value.oneCell', evBin, decT]; (with_reducible refine hK _ ?_))
      refine WpT_cond rfl (fun _ => ?_) (fun h => by simp at h)
      (refine WpT_sreg [⟨1, _, _, _, cha⟩] [] (by simp) fun K hK => ?_; simp (disch := omega) only [kc, CItem.a, prep1, Nat.reduceAdd, opS_call, newS, effA, List.find?_cons, evAll, ofConst, Value.oneCell', norm, CallRes.plain, List.isEmpty_cons, rawTV, rawAV, normOk, Bool.not_false, noRefTV, noRefAV, Bool.or_false, renTV, renAV, renO, Nat.reduceEqDiff]; (with_reducible refine hK _ ?_))
      refine WpT.weak (Weak_sub (tm := [jk, jk, jk, jk, jk, tptr b, .raw (.int .i64 (n : Int)), .one (.sl 35 0 0 n), jk, jk, jk, jk, jk, jk, jk, jk, jk, jk, jk, jk, jk, jk, jk, jk, jk, jk, jk, jk, jk, jk, jk, jk, jk, jk, jk, jk, jk, jk, jk, jk, jk, jk, jk, jk, jk, jk, jk, jk, jk, jk, jk, jk, jk, jk, jk, jk, jk, jk, jk, jk, jk, jk, jk, jk, jk, jk, jk, jk, jk, jk, jk, jk, jk, jk]) (l := [(35, mxI 35 n n (chI false n n))]) ⟨mxI_ren 0 35 n n _, trivial⟩ (by simp [wkL, okTV, okAV])) ?_
      ((refine WpT_lldraw mixedA 6 cb3 [] [] (by kernel_rfl) (by kernel_rfl) (by rfl) (by rfl) (by simp) fun K hK => ?_); simp (disch := omega) only [kc, tptr, prep1, Nat.reduceAdd, Hm, opS_indexAddr, effR, ofConst, Value.oneCell', natOf_pos, Int.reduceToNat, ty_slice26, ty_sz29, Nat.add_zero, ifT, x1, packT, ty_agg29, ty_slice29, x2, ty_sz2, lc_get, fI, x3, ty_agg2, opS_call, newS, effA, List.find?_cons, evAll, norm, CallRes.plain, rawTV, rawAV, normOk, noRefTV, noRefAV, renTV, renAV, effM, evBin, wrapI, opS_store, wrS, effD, cellsOf, Nat.le_refl, isPure, putCells, mxIr_set, killTV, killAV]; (with_reducible refine hK _ ?_))
      rw [show rawG kind L n = (upd (chI false n n) 0 0 (chI false n n 0 0 + (belF L 0 3 : Int)), nextAt L 0) by unfold rawG; rw [if_neg (by omega), if_pos hk]]
      refine ⟨(Weak_sub (tm := [jk, jk, jk, jk, jk, tptr b, .raw (.int .i64 (n : Int)), .one (.sl 35 0 0 n), jk, jk, jk, jk, jk, jk, jk, jk, jk, jk, jk, jk, jk, jk, jk, jk, jk, jk, jk, jk, jk, jk, jk, jk, jk, jk, jk, jk, jk, jk, jk, jk, jk, jk, jk, jk, jk, jk, jk, jk, jk, jk, jk, jk, jk, jk, jk, jk, jk, jk, jk, jk, jk, jk, jk, jk, jk, jk, jk, jk, jk, jk, jk, jk, jk, jk]) (l := [(35, mxI 35 n n (upd (chI false n n) 0 0 (chI false n n 0 0 + (belF L 0 3 : Int))))]) ⟨rfl, trivial⟩ (by simp [wkL, okTV, okAV])).trans ((Weak_fz 35 (fzOk_mxI rfl)).trans (Weak_sub (tm := [jk, jk, jk, jk, jk, tptr b, .raw (.int .i64 (n : Int)), slI (mat n n (upd (chI false n n) 0 0 (chI false n n 0 0 + (belF L 0 3 : Int)))), jk, jk, jk, jk, jk, jk, jk, jk, jk, jk, jk, jk, jk, jk, jk, jk, jk, jk, jk, jk, jk, jk, jk, jk, jk, jk, jk, jk, jk, jk, jk, jk, jk, jk, jk, jk, jk, jk, jk, jk, jk, jk, jk, jk, jk, jk, jk, jk, jk, jk, jk, jk, jk, jk, jk, jk, jk, jk, jk, jk, jk, jk, jk, jk, jk, jk]) (l := []) trivial (by
        simp [wkL, okTV, okAV]
        exact ⟨rfl, rfl, (fzMI (H := Hm [(35, mxI 35 n n (upd (chI false n n) 0 0 (chI false n n 0 0 + (belF L 0 3 : Int))))]) (d := 35) (n := n) (c := n) (f := upd (chI false n n) 0 0 (chI false n n 0 0 + (belF L 0 3 : Int))) rfl).symm⟩))), rfl⟩
    · have hk : kind % 8 = 5 := by omega
      rw [hk, show ((5 : Nat) : Int) = 5 from rfl]
      refine WpT_block ?_
      (refine WpT_seq (WpT_sreg [] [] (by simp) fun K hK => ?_); simp (disch := omega) only [kc, prep1, effM, ofConst, Value.oneCell', evBin, decF]; (with_reducible refine hK _ ?_))
      refine WpT_cond rfl (fun h => by simp at h) (fun _ => ?_)
      (refine WpT_sreg [] [] (by simp) fun K hK => ?_; simp (disch := omega) only [kc, prep1, effM, ofConst, Value.oneCell', evBin, decF]; (with_reducible refine hK _ ?_))
      refine WpT_cond rfl (fun h => by simp at h) (fun _ => ?_)
      (refine WpT_sreg [] [] (by simp) fun K hK => ?_; simp (disch := omega) only [kc, prep1, effM, ofConst, Value.oneCell', evBin, decF]; (with_reducible refine hK _ ?_))
      refine WpT_cond rfl (fun h => by simp at h) (fun _ => ?_)
      ((refine WpT_lreg [] [] (by simp) fun K hK => ?_); simp (disch := omega) only [kc, prep1, effM, ofConst, Value.oneCell', evBin, decF]; (with_reducible refine hK _ ?_))
      show WpT _ _ _ _ _ _ _
      refine WpT_cond rfl (fun h => by simp at h) (fun _ => ?_)
      (refine WpT_sreg [] [] (by simp) fun K hK => ?_; simp (disch := omega) only [kc, prep1, effM, ofConst, Value.oneCell', evBin, decF]; (with_reducible refine hK _ ?_))
      refine WpT_cond rfl (fun h => by simp at h) (fun _ => ?_)
      (refine WpT_sreg [] [] (by simp) fun K hK => ?_; simp (disch := omega) only [kc, prep1, effM, ofConst, Value.oneCell', evBin, decT]; (with_reducible refine hK _ ?_))
      refine WpT_cond rfl (fun _ => ?_) (fun h => by simp at h)
      (refine WpT_sreg [⟨1, _, _, _, chb⟩] [] (by simp) fun K hK => ?_; simp (disch := omega) only [kc, CItem.a, prep1, Nat.reduceAdd, opS_call, newS, effA, List.find?_cons, evAll, ofConst, Value.oneCell', norm, CallRes.plain, List.isEmpty_cons, rawTV, rawAV, normOk, Bool.not_false, noRefTV, noRefAV, Bool.or_false, renTV, renAV, renO, Nat.reduceEqDiff]; (with_reducible refine hK _ ?_))
      refine WpT.weak (Weak_sub (tm := [jk, jk, jk, jk, jk, tptr b, .raw (.int .i64 (n : Int)), .one (.sl 48 0 0 n), jk, jk, jk, jk, jk, jk, jk, jk, jk, jk, jk, jk, jk, jk, jk, jk, jk, jk, jk, jk, jk, jk, jk, jk, jk, jk, jk, jk, jk, jk, jk, jk, jk, jk, jk, jk, jk, jk, jk, jk, jk, jk, jk, jk, jk, jk, jk, jk, jk, jk, jk, jk, jk, jk, jk, jk, jk, jk, jk, jk, jk, jk, jk, jk, jk, jk]) (l := [(48, mxI 48 n n (chI true n n))]) ⟨mxI_ren 0 48 n n _, trivial⟩ (by simp [wkL, okTV, okAV])) ?_
      ((refine WpT_lldraw mixedA 10 cb2 [] [] (by kernel_rfl) (by kernel_rfl) (by rfl) (by rfl) (by simp) fun K hK => ?_); simp (disch := omega) only [kc, tptr, prep1, Nat.reduceAdd, Hm, effM, ofConst, Value.oneCell', evBin, wrapI, opS_indexAddr, effR, natOf_pos, x0, ty_slice26, ty_sz29, ifT, y1, packT, ty_agg29, ty_slice29, y2, ty_sz2, lc_get, fI, y3, ty_agg2, opS_call, newS, effA, List.find?_cons, evAll, norm, CallRes.plain, rawTV, rawAV, normOk, noRefTV, noRefAV, renTV, renAV, opS_store, wrS, effD, cellsOf, Nat.le_refl, isPure, putCells, mxIr_set, killTV, killAV]; (with_reducible refine hK _ ?_))
      rw [show rawG kind L n = (upd (chI true n n) (n - 1) (n - 1) (chI true n n (n - 1) (n - 1) + (belF L 0 2 : Int)), nextAt L 0) by unfold rawG; rw [if_neg (by omega), if_neg (by omega), if_pos hk]]
      refine ⟨(Weak_sub (tm := [jk, jk, jk, jk, jk, tptr b, .raw (.int .i64 (n : Int)), .one (.sl 48 0 0 n), jk, jk, jk, jk, jk, jk, jk, jk, jk, jk, jk, jk, jk, jk, jk, jk, jk, jk, jk, jk, jk, jk, jk, jk, jk, jk, jk, jk, jk, jk, jk, jk, jk, jk, jk, jk, jk, jk, jk, jk, jk, jk, jk, jk, jk, jk, jk, jk, jk, jk, jk, jk, jk, jk, jk, jk, jk, jk, jk, jk, jk, jk, jk, jk, jk, jk]) (l := [(48, mxI 48 n n (upd (chI true n n) (n - 1) (n - 1) (chI true n n (n - 1) (n - 1) + (belF L 0 2 : Int))))]) ⟨rfl, trivial⟩ (by simp [wkL, okTV, okAV])).trans ((Weak_fz 48 (fzOk_mxI rfl)).trans (Weak_sub (tm := [jk, jk, jk, jk, jk, tptr b, .raw (.int .i64 (n : Int)), slI (mat n n (upd (chI true n n) (n - 1) (n - 1) (chI true n n (n - 1) (n - 1) + (belF L 0 2 : Int)))), jk, jk, jk, jk, jk, jk, jk, jk, jk, jk, jk, jk, jk, jk, jk, jk, jk, jk, jk, jk, jk, jk, jk, jk, jk, jk, jk, jk, jk, jk, jk, jk, jk, jk, jk, jk, jk, jk, jk, jk, jk, jk, jk, jk, jk, jk, jk, jk, jk, jk, jk, jk, jk, jk, jk, jk, jk, jk, jk, jk, jk, jk, jk, jk, jk, jk]) (l := []) trivial (by
        simp [wkL, okTV, okAV]
        exact ⟨rfl, rfl, (fzMI (H := Hm [(48, mxI 48 n n (upd (chI true n n) (n - 1) (n - 1) (chI true n n (n - 1) (n - 1) + (belF L 0 2 : Int))))]) (d := 48) (n := n) (c := n) (f := upd (chI true n n) (n - 1) (n - 1) (chI true n n (n - 1) (n - 1) + (belF L 0 2 : Int))) rfl).symm⟩))), rfl⟩
    · have hk : kind % 8 = 6 := by omega
      rw [hk, show ((6 : Nat) : Int) = 6 from rfl]
      refine WpT_block ?_
      (refine WpT_seq (WpT_sreg [] [] (by simp) fun K hK => ?_); simp (disch := omega) only [kc, prep1, effM, ofConst, Value.oneCell', evBin, decF]; (with_reducible refine hK _ ?_))
      refine WpT_cond rfl (fun h => by simp at h) (fun _ => ?_)
      (refine WpT_sreg [] [] (by simp) fun K hK => ?_; simp (disch := omega) only [kc, prep1, effM, ofConst, Value.oneCell', evBin, decF]; (with_reducible refine hK _ ?_))
      refine WpT_cond rfl (fun h => by simp at h) (fun _ => ?_)
      (refine WpT_sreg [] [] (by simp) fun K hK => ?_; simp (disch := omega) only [kc, prep1, effM, ofConst, Value.oneCell', evBin, decF]; (with_reducible refine hK _ ?_))
      refine WpT_cond rfl (fun h => by simp at h) (fun _ => ?_)
      ((refine WpT_lreg [] [] (by simp) fun K hK => ?_); simp (disch := omega) only [kc, prep1, effM, ofConst, Value.oneCell', evBin, decF]; (with_reducible refine hK _ ?_))
      show WpT _ _ _ _ _ _ _
      refine WpT_cond rfl (fun h => by simp at h) (fun _ => ?_)
      (refine WpT_sreg [] [] (by simp) fun K hK => ?_; simp (disch := omega) only [kc, prep1, effM, ofConst, Value.oneCell', evBin, decF]; (with_reducible refine hK _ ?_))
      refine WpT_cond rfl (fun h => by simp at h) (fun _ => ?_)
      (refine WpT_sreg [] [] (by simp) fun K hK => ?_; simp (disch := omega) only [kc, prep1, effM, ofConst, Value.oneCell', evBin, decF]; (with_reducible refine hK _ ?_))
      refine WpT_cond rfl (fun h => by simp at h) (fun _ => ?_)
      (refine WpT_sreg [] [] (by simp) fun K hK => ?_; simp (disch := omega) only [kc, prep1, effM, ofConst, Value.oneCell', evBin, decT]; (with_reducible refine hK _ ?_))
      refine WpT_cond rfl (fun _ => ?_) (fun h => by simp at h)
      ((refine WpT_llent 2 cd9 [] [] (by kernel_rfl) (by rfl) (by rfl) (by simp) fun K hK => ?_); simp (disch := omega) only [kc, tptr, prep1, Nat.reduceAdd, opS_call, newS, effA, List.find?_cons, evAll, ofConst, Value.oneCell', norm, CallRes.plain, List.isEmpty_cons, rawTV, rawAV, normOk, Bool.not_false, noRefTV, noRefAV, Bool.or_false, renTV, renAV, renO, Nat.reduceEqDiff]; (with_reducible refine hK _ ?_))
      rw [show rawG kind L n = (dgF L 0 9, adv L 0 n) by unfold rawG; rw [if_neg (by omega), if_neg (by omega), if_neg (by omega), if_pos hk]]
      refine ⟨(Weak_sub (tm := [jk, jk, jk, jk, jk, tptr b, .raw (.int .i64 (n : Int)), .one (.sl 66 0 0 n), jk, jk, jk, jk, jk, jk, jk, jk, jk, jk, jk, jk, jk, jk, jk, jk, jk, jk, jk, jk, jk, jk, jk, jk, jk, jk, jk, jk, jk, jk, jk, jk, jk, jk, jk, jk, jk, jk, jk, jk, jk, jk, jk, jk, jk, jk, jk, jk, jk, jk, jk, jk, jk, jk, jk, jk, jk, jk, jk, jk, jk, jk, jk, jk, jk, jk]) (l := [(66, mxI 66 n n (dgF L 0 9))]) ⟨mxI_ren 0 66 n n _, trivial⟩ (by simp [wkL, okTV, okAV])).trans ((Weak_fz 66 (fzOk_mxI rfl)).trans (Weak_sub (tm := [jk, jk, jk, jk, jk, tptr b, .raw (.int .i64 (n : Int)), slI (mat n n (dgF L 0 9)), jk, jk, jk, jk, jk, jk, jk, jk, jk, jk, jk, jk, jk, jk, jk, jk, jk, jk, jk, jk, jk, jk, jk, jk, jk, jk, jk, jk, jk, jk, jk, jk, jk, jk, jk, jk, jk, jk, jk, jk, jk, jk, jk, jk, jk, jk, jk, jk, jk, jk, jk, jk, jk, jk, jk, jk, jk, jk, jk, jk, jk, jk, jk, jk, jk, jk]) (l := []) trivial (by
        simp [wkL, okTV, okAV]
        exact ⟨rfl, rfl, (fzMI (H := Hm [(66, mxI 66 n n (dgF L 0 9))]) (d := 66) (n := n) (c := n) (f := dgF L 0 9) rfl).symm⟩))), rfl⟩
    · have hk : kind % 8 = 7 := by omega
      rw [hk, show ((7 : Nat) : Int) = 7 from rfl]
      refine WpT_block ?_
      (refine WpT_seq (WpT_sreg [] [] (by simp) fun K hK => ?_); simp (disch := omega) only [kc, prep1, effM, ofConst, Value.oneCell', evBin, decF]; (with_reducible refine hK _ ?_))
      refine WpT_cond rfl (fun h => by simp at h) (fun _ => ?_)
      (refine WpT_sreg [] [] (by simp) fun K hK => ?_; simp (disch := omega) only [kc, prep1, effM, ofConst, Value.oneCell', evBin, decF]; (with_reducible refine hK _ ?_))
      refine WpT_cond rfl (fun h => by simp at h) (fun _ => ?_)
      (refine WpT_sreg [] [] (by simp) fun K hK => ?_; simp (disch := omega) only [kc, prep1, effM, ofConst, Value.oneCell', evBin, decF]; (with_reducible refine hK _ ?_))
      refine WpT_cond rfl (fun h => by simp at h) (fun _ => ?_)
      ((refine WpT_lreg [] [] (by simp) fun K hK => ?_); simp (disch := omega) only [kc, prep1, effM, ofConst, Value.oneCell', evBin, decF]; (with_reducible refine hK _ ?_))
      show WpT _ _ _ _ _ _ _
      refine WpT_cond rfl (fun h => by simp at h) (fun _ => ?_)
      (refine WpT_sreg [] [] (by simp) fun K hK => ?_; simp (disch := omega) only [kc, prep1, effM, ofConst, Value.oneCell', evBin, decF]; (with_reducible refine hK _ ?_))
      refine WpT_cond rfl (fun h => by simp at h) (fun _ => ?_)
      (refine WpT_sreg [] [] (by simp) fun K hK => ?_; simp (disch := omega) only [kc, prep1, effM, ofConst, Value.oneCell', evBin, decF]; (with_reducible refine hK _ ?_))
      refine WpT_cond rfl (fun h => by simp at h) (fun _ => ?_)
      (refine WpT_sreg [] [] (by simp) fun K hK => ?_; simp (disch := omega) only [kc, prep1, effM, ofConst, Value.oneCell', evBin, decF]; (with_reducible refine hK _ ?_))
      refine WpT_cond rfl (fun h => by simp at h) (fun _ => ?_)
      ((refine WpT_llent 2 cd1 [] [] (by kernel_rfl) (by rfl) (by rfl) (by simp) fun K hK => ?_); simp (disch := omega) only [kc, tptr, prep1, Nat.reduceAdd, opS_call, newS, effA, List.find?_cons, evAll, ofConst, Value.oneCell', norm, CallRes.plain, List.isEmpty_cons, rawTV, rawAV, normOk, Bool.not_false, noRefTV, noRefAV, Bool.or_false, renTV, renAV, renO, Nat.reduceEqDiff]; (with_reducible refine hK _ ?_))
      rw [show rawG kind L n = (dgF L 0 1, adv L 0 n) by unfold rawG; rw [if_neg (by omega), if_neg (by omega), if_neg (by omega), if_neg (by omega)]]
      refine ⟨(Weak_sub (tm := [jk, jk, jk, jk, jk, tptr b, .raw (.int .i64 (n : Int)), .one (.sl 23 0 0 n), jk, jk, jk, jk, jk, jk, jk, jk, jk, jk, jk, jk, jk, jk, jk, jk, jk, jk, jk, jk, jk, jk, jk, jk, jk, jk, jk, jk, jk, jk, jk, jk, jk, jk, jk, jk, jk, jk, jk, jk, jk, jk, jk, jk, jk, jk, jk, jk, jk, jk, jk, jk, jk, jk, jk, jk, jk, jk, jk, jk, jk, jk, jk, jk, jk, jk]) (l := [(23, mxI 23 n n (dgF L 0 1))]) ⟨mxI_ren 0 23 n n _, trivial⟩ (by simp [wkL, okTV, okAV])).trans ((Weak_fz 23 (fzOk_mxI rfl)).trans (Weak_sub (tm := [jk, jk, jk, jk, jk, tptr b, .raw (.int .i64 (n : Int)), slI (mat n n (dgF L 0 1)), jk, jk, jk, jk, jk, jk, jk, jk, jk, jk, jk, jk, jk, jk, jk, jk, jk, jk, jk, jk, jk, jk, jk, jk, jk, jk, jk, jk, jk, jk, jk, jk, jk, jk, jk, jk, jk, jk, jk, jk, jk, jk, jk, jk, jk, jk, jk, jk, jk, jk, jk, jk, jk, jk, jk, jk, jk, jk, jk, jk, jk, jk, jk, jk, jk, jk]) (l := []) trivial (by
        simp [wkL, okTV, okAV]
        exact ⟨rfl, rfl, (fzMI (H := Hm [(23, mxI 23 n n (dgF L 0 1))]) (d := 23) (n := n) (c := n) (f := dgF L 0 1) rfl).symm⟩))), rfl⟩
  · generalize hrw : rawG kind L n = rg at *
    obtain ⟨f, p⟩ := rg
    simp only at hraw hple ⊢
    have e5 : gramF kind L n = (open Classical in if GoodP n f then f else dgF L p 2) := by unfold gramF; rw [hrw]
    by_cases hg : GoodP n f
    · rw [if_pos hg] at e5
      rw [e5]
      have c1 := good_C n f hn1 hn8 hraw.i64 true (by simp [hg])
      (refine WpT_seq (WpT_sreg [⟨1, _, _, _, c1⟩] [] (by simp) fun K hK => ?_); simp (disch := omega) only [kc, slI, CItem.a, prep1, Nat.reduceAdd, tptr, Hm, opS_call, newS, effA, List.find?_cons, evAll, norm, CallRes.plain, rawTV, rawAV, normOk, noRefTV, noRefAV, renTV, renAV, opS_un, effM, evUn]; (with_reducible refine hK _ ?_))
      refine WpT_cond rfl (fun h => by simp at h) (fun _ => WpT_skip ?_)
      show WpT _ _ _ _ _ _ _
      (refine WpT_sreg [] [] (by simp) fun K hK => ?_; simp (disch := omega) only [kc, prep1]; (with_reducible refine hK _ ?_))
      refine WpT_ret ⟨.inr rfl, ret_now rfl ?_ rfl⟩
      simp (disch := omega) only [resA, Tryz.results29, resOne, List.getElem?_cons_succ, List.getElem?_cons_zero, slI]
    · rw [if_neg hg] at e5
      rw [e5]
      have c1 := good_C n f hn1 hn8 hraw.i64 false (by simp [hg])
      have c2 := diagonal_T b L p n 2 hL hple hn8 (by omega) (by omega)
      rw [show ((2 : Nat) : Int) = 2 from rfl] at c2
      (refine WpT_seq (WpT_sreg [⟨1, _, _, _, c1⟩] [] (by simp) fun K hK => ?_); simp (disch := omega) only [kc, slI, CItem.a, prep1, Nat.reduceAdd, tptr, Hm, opS_call, newS, effA, List.find?_cons, evAll, norm, CallRes.plain, rawTV, rawAV, normOk, noRefTV, noRefAV, renTV, renAV, opS_un, effM, evUn, Bool.not_false]; (with_reducible refine hK _ ?_))
      refine WpT_cond rfl (fun _ => ?_) (fun h => by simp at h)
      (refine WpT_slent 2 c2 [] [] (by kernel_rfl) (by rfl) (by rfl) (by simp) fun K hK => ?_; simp (disch := omega) only [kc, tptr, prep1, Nat.reduceAdd, opS_call, newS, effA, List.find?_cons, evAll, ofConst, Value.oneCell', norm, CallRes.plain, List.isEmpty_cons, rawTV, rawAV, normOk, Bool.not_false, noRefTV, noRefAV, Bool.or_false, renTV, renAV, renO]; (with_reducible refine hK _ ?_))
      refine WpT.weak (Weak_sub (tm := [jk, jk, jk, jk, .one (.sl 72 0 0 n), jk, jk, jk, jk, jk, jk, jk, jk, jk, jk, jk, jk, jk, jk, jk, jk, jk, jk, jk, jk, jk, jk, jk, jk, jk, jk, jk, jk, jk, jk, jk, jk, jk, jk, jk, jk, jk, jk, jk, jk, jk, jk, jk, jk, jk, jk, jk, jk, jk, jk, jk, jk, jk, jk, jk, jk, jk, jk, jk, jk, jk, jk, jk, jk, jk, jk, jk, jk, jk]) (l := [(72, mxI 72 n n (dgF L p 2))]) ⟨mxI_ren 0 72 n n _, trivial⟩ (by simp [wkL, okTV, okAV])) ?_
      refine WpT.weak ((Weak_fz 72 (fzOk_mxI rfl)).trans (Weak_sub (tm := [jk, jk, jk, jk, slI (mat n n (dgF L p 2)), jk, jk, jk, jk, jk, jk, jk, jk, jk, jk, jk, jk, jk, jk, jk, jk, jk, jk, jk, jk, jk, jk, jk, jk, jk, jk, jk, jk, jk, jk, jk, jk, jk, jk, jk, jk, jk, jk, jk, jk, jk, jk, jk, jk, jk, jk, jk, jk, jk, jk, jk, jk, jk, jk, jk, jk, jk, jk, jk, jk, jk, jk, jk, jk, jk, jk, jk, jk, jk]) (l := []) trivial (by
        simp [wkL, okTV, okAV]
        exact (fzMI (H := Hm [(72, mxI 72 n n (dgF L p 2))]) (d := 72) (n := n) (c := n) (f := dgF L p 2) rfl).symm))) ?_
      refine WpT_ret ⟨.inr rfl, ret_now rfl ?_ rfl⟩
      simp (disch := omega) only [resA, Tryz.results29, resOne, slI, List.getElem?_cons_succ, List.getElem?_cons_zero]
end Go.Proofs.YtobnpabndpmabaaGreat
namespace Go.Proofs.YtobnpabndpmabaaGreat
open Go.RowKit
set_option maxRecDepth 100000 in
set_option maxHeartbeats 16000000 in
theorem ToInts_C (n c : Nat) (f : Nat → Nat → Int) (hn1 : 1 ≤ n) (hn : n ≤ 16) (hc1 : 1 ≤ c) (hc : c ≤ 16) (hf : ∀ i j : Nat, i < n → j < c → I64 (f i j)) :
    CallC Tryz.prog 50 [slM (mat n c f)] ⟨[], .tup [(false, [.p (.sl (ls (fR fI) (mat n c f)))]), (false, [.p (.raw (.bool true))])]⟩ := by
  have hS := Shape_C (mat n c f)
  rw [shT_yes (mat_ShP f hn1 hn hc1 hc), mat_len, mat_head f hn1] at hS
  refine callC_of Tryz.func50 rfl (by kernel_rfl) ?_; rw [Tryz.ntmps50]
  (refine WpA_sreg [] [] (by simp) fun K hK => ?_; simp (disch := omega) only [kc, prep1, slM, List.replicate, ofConst, Value.oneCell']; (with_reducible refine hK _ ?_))
  (refine WpA_sreg [⟨1, _, _, _, hS⟩] [] (by simp) fun K hK => ?_; simp (disch := omega) only [kc, slM, CItem.a, prep1, Nat.reduceAdd, opS_call, newS, effA, List.find?_cons, evAll, norm, CallRes.plain, rawTV, rawAV, normOk, noRefTV, noRefAV, renTV, renAV, opS_extract, effM]; (with_reducible refine hK _ ?_))
  (refine WpA_seq (WpA_sreg [] [] (by simp) fun K hK => ?_); simp (disch := omega) only [kc, prep1, opS_un, effM, evUn]; (with_reducible refine hK _ ?_))
  refine WpA_cond rfl (fun h => by simp at h) (fun _ => WpA_skip ?_)
  show WpA _ _ _ _
  (refine WpA_sreg [] [] (by simp) fun K hK => ?_; simp (disch := omega) only [kc, prep1, Nat.reduceAdd, opS_makeSlice, newS, effA, ty_slice26, ty_zero29, ty_sz29, ty_by29, Int.natCast_nonneg, Value.oneCell', and_true, ifT]; (with_reducible refine hK _ ?_))
  (refine WpA_seq (WpA_sreg [] [] (by simp) fun K hK => ?_); simp (disch := omega) only [kc, prep1, Nat.reduceAdd, opS_len, effR, ty_slice26, ofConst, Value.oneCell']; (with_reducible refine hK _ ?_))
  refine WpA_forb (G := FiG n) (fun g => ⟨[slM (mat n c f), jk, jk, jk, jk, .raw (.int .i64 (c : Int)), jk, .one (.sl 21 0 0 n), jk, jk, jk, jk, jk, jk, jk, jk, jk, jk, jk, jk, jk, jk, jk, .raw (.int .i64 (n : Int)), .raw (.int .i64 (g.i : Int)), jk, jk, jk, jk, jk, jk, jk, jk, jk, jk, jk, jk, jk, jk, jk, jk, jk, jk, jk, jk, jk, jk, jk, jk, jk, jk, jk, jk, jk, jk, jk, jk, jk, jk, jk, jk, jk, jk], Hm [(21, kI 21 n c g.i (part f g.i 0))]⟩) (fun g => n - g.i) ⟨0, by omega⟩ ?_ ?_
  · refine Weak_sub ⟨?_, trivial⟩ ?_
    · show [_] = _
      simp [spn, mat]
    · simp [wkL, okTV, okAV]
  · rintro ⟨i, hi⟩
    simp only
    by_cases hm : i < n
    · have hr := mat_get c f hm
      have k1 := kI_nil (i := i) (n := n) 21 c hm
      have k2 := kI_len (i := i) (n := n) 21 c hi
      have k3 := mat_len i c (part f i 0)
      have k4 := kI_make (i := i) (n := n) (c := c) 21 (part f i 0) hm (fun j hj => by unfold part; rw [if_neg (by omega)])
      have k5 := kI_get (i := i + 1) (k := i) (n := n) 21 c (by omega)
      have k6 := kI_len (i := i + 1) (n := n) 21 c (by omega)
      have k7 := mxIr_get (n := i + 1) c (part f i 0) (i := i) (by omega)
      (refine WpA_sreg [] [] (by simp) fun K hK => ?_; simp (disch := omega) only [kc, prep1, slM, Hm, effM, evBin, decT]; (with_reducible refine hK _ ?_))
      refine WpA_seq (WpA_cond rfl (fun _ => WpA_skip ?_) (fun h => by simp at h <;> omega))
      refine WpA_seq (WpA_block ?_)
      (refine WpA_sreg [] [] (by simp) fun K hK => ?_; simp (disch := omega) only [kc, prep1]; (with_reducible refine hK _ ?_))
      (refine WpA_sreg [] [] (by simp) fun K hK => ?_; simp (disch := omega) only [kc, prep1, Nat.reduceAdd, opS_makeSlice, newS, effA, ty_slice29, ty_zero2, ty_sz2, ty_by2, Int.natCast_nonneg, Value.oneCell', and_true, ifT, Nat.reduceEqDiff, opS_indexAddr, effR, natOf_pos, ty_slice26, updH, ty_sz29, opS_store, wrS, effD, k1, putCells, ifF, List.length_replicate, List.all_replicate, isPure, List.length_map, k3, killTV, killAV, Nat.reduceBEq]; (with_reducible refine hK _ ?_))
      refine WpA.weak (Weak_sub (tm := [slM (mat n c f), jk, jk, jk, jk, .raw (.int .i64 (c : Int)), jk, .one (.sl 21 0 0 n), .raw (.int .i64 (i : Int)), jk, jk, jk, jk, jk, jk, jk, jk, jk, jk, jk, jk, jk, jk, .raw (.int .i64 (n : Int)), .raw (.int .i64 (i : Int)), jk, jk, jk, jk, jk, jk, jk, jk, jk, jk, jk, jk, jk, jk, jk, jk, jk, jk, jk, jk, jk, jk, jk, jk, jk, jk, jk, jk, jk, jk, jk, jk, jk, jk, jk, jk, jk, jk]) (l := [(21, kI 21 n c (i + 1) (part f i 0))]) ⟨?_, trivial⟩ (by simp [wkL, okTV, okAV])) ?_
      · first | exact k4 | rfl
      (refine WpA_sreg [] [] (by simp) fun K hK => ?_; simp (disch := omega) only [kc, prep1, Nat.reduceAdd, slM, Hm, opS_indexAddr, effR, natOf_pos, ty_slice26, ty_sz29, ifT, k5, packT, ty_agg29, opS_len, ty_slice29, ofConst, Value.oneCell']; (with_reducible refine hK _ ?_))
      refine WpA_forb (G := FiG c) (fun g => ⟨[slM (mat n c f), jk, jk, jk, jk, .raw (.int .i64 (c : Int)), jk, .one (.sl 21 0 0 n), .raw (.int .i64 (i : Int)), jk, jk, jk, jk, jk, jk, jk, jk, jk, jk, jk, jk, jk, jk, .raw (.int .i64 (n : Int)), .raw (.int .i64 (i : Int)), jk, jk, jk, jk, jk, jk, jk, jk, jk, jk, jk, .raw (.int .i64 (c : Int)), .raw (.int .i64 (g.i : Int)), jk, jk, jk, jk, jk, jk, jk, jk, jk, jk, jk, jk, jk, jk, jk, jk, jk, jk, jk, jk, jk, jk, jk, jk, jk], Hm [(21, kI 21 n c (i + 1) (part f i g.i))]⟩) (fun g => c - g.i) ⟨0, by omega⟩ ?_ ?_
      · refine Weak_sub ⟨rfl, trivial⟩ ?_
        simp [wkL, okTV, okAV]
      · rintro ⟨j, hj⟩
        simp only
        by_cases hm3 : j < c
        · have hjr := rowF_get (f i) hm3
          have hz := hf i j hm hm3
          have cI := Int64_C (f i j) (hz.sz (by omega))
          rw [i64R, if_pos (show -9223372036854775808 ≤ f i j ∧ f i j ≤ 9223372036854775807 from hz)] at cI
          have q7 := mxIr_get (n := i + 1) c (part f i j) (i := i) (by omega)
          have q8 := rowF_get (part f i j i) hm3
          (refine WpA_sreg [] [] (by simp) fun K hK => ?_; simp (disch := omega) only [kc, prep1, slM, Hm, effM, evBin, decT]; (with_reducible refine hK _ ?_))
          refine WpA_seq (WpA_cond rfl (fun _ => WpA_skip ?_) (fun h => by simp at h <;> omega))
          refine WpA_seq (WpA_block ?_)
          (refine WpA_sreg [] [] (by simp) fun K hK => ?_; simp (disch := omega) only [kc, prep1]; (with_reducible refine hK _ ?_))
          (refine WpA_sreg [⟨7, _, _, _, cI⟩] [] (by simp) fun K hK => ?_; simp (disch := omega) only [kc, tZ, CItem.a, prep1, Nat.reduceAdd, opS_indexAddr, effR, natOf_pos, ty_slice50, ls_get, hr, fR, ty_sz122, packT, ty_agg122, ty_slice122, hjr, fZ, ty_sz79, ty_agg79, Nat.le_refl, opS_call, newS, effA, List.find?_cons, evAll, norm, CallRes.plain, rawTV, rawAV, normOk, isPure, noRefTV, noRefAV, renTV, renAV, opS_extract, effM]; (with_reducible refine hK _ ?_))
          (refine WpA_seq (WpA_sreg [] [] (by simp) fun K hK => ?_); simp (disch := omega) only [kc, prep1, opS_un, effM, evUn]; (with_reducible refine hK _ ?_))
          refine WpA_cond rfl (fun h => by simp at h) (fun _ => WpA_skip ?_)
          show WpA _ _ _ _
          ((refine WpA_lreg [] [] (by simp) fun K hK => ?_); simp (disch := omega) only [kc, prep1, Nat.reduceAdd, opS_indexAddr, effR, natOf_pos, ty_slice26, ty_sz29, ifT, k5, packT, ty_agg29, ty_slice29, q7, ty_sz2, opS_store, wrS, effD, lc_get, fI, q8, cellsOf, Nat.le_refl, isPure, putCells, mxIr_set, killTV, killAV]; (with_reducible refine hK _ ?_))
          show WpA _ _ _ _
          ((refine WpA_lreg [] [] (by simp) fun K hK => ?_); simp (disch := omega) only [kc, prep1, effM, ofConst, Value.oneCell', evBin, wrapI]; (with_reducible refine hK _ ?_))
          refine ⟨⟨j + 1, by omega⟩, by simp only; omega, Weak_sub ⟨?_, trivial⟩ ?_⟩
          · show _ :: _ = _ :: _
            rw [mxIr_congr fun a b _ _ => part_step f i j a b]
          · simp [wkL, okTV, okAV]
        · have hjc : j = c := by omega
          subst hjc
          (refine WpA_sreg [] [] (by simp) fun K hK => ?_; simp (disch := omega) only [kc, prep1, slM, Hm, effM, evBin, decF]; (with_reducible refine hK _ ?_))
          refine WpA_seq (WpA_cond rfl (fun h => by simp at h <;> omega) (fun _ => WpA_exit ?_))
          show WpA _ _ _ _
          ((refine WpA_lreg [] [] (by simp) fun K hK => ?_); simp (disch := omega) only [kc, prep1, effM, ofConst, Value.oneCell', evBin, wrapI]; (with_reducible refine hK _ ?_))
          refine ⟨⟨i + 1, by omega⟩, by simp only; omega, Weak_sub ⟨?_, trivial⟩ ?_⟩
          · show _ :: _ = _ :: _
            rw [mxIr_congr fun a b _ hb => part_row f i a b hb]
          · simp [wkL, okTV, okAV]
    · have hin : i = n := by omega
      subst hin
      (refine WpA_sreg [] [] (by simp) fun K hK => ?_; simp (disch := omega) only [kc, prep1, slM, Hm, effM, evBin, decF]; (with_reducible refine hK _ ?_))
      refine WpA_seq (WpA_cond rfl (fun h => by simp at h <;> omega) (fun _ => WpA_exit ?_))
      show WpA _ _ _ _
      have e : kI 21 i c i (part f i 0) = mxI 21 i c f := by
        rw [kI_end]
        show _ :: _ = _ :: _
        rw [mxIr_congr fun a b ha _ => part_end f a b ha]
      rw [e]
      refine WpA.weak ((Weak_fz 21 (fzOk_mxI rfl)).trans (Weak_sub (tm := [jk, jk, jk, jk, jk, jk, jk, slI (mat i c f), jk, jk, jk, jk, jk, jk, jk, jk, jk, jk, jk, jk, jk, jk, jk, jk, jk, jk, jk, jk, jk, jk, jk, jk, jk, jk, jk, jk, jk, jk, jk, jk, jk, jk, jk, jk, jk, jk, jk, jk, jk, jk, jk, jk, jk, jk, jk, jk, jk, jk, jk, jk, jk, jk, jk]) (l := []) trivial (by simp [wkL, okTV, okAV]; exact (fzMI (H := Hm [(21, mxI 21 i c f)]) (d := 21) (n := i) (c := c) (f := f) rfl).symm))) ?_
      (refine WpA_sreg [] [] (by simp) fun K hK => ?_; simp (disch := omega) only [kc, prep1, Nat.reduceAdd, slI, Hm, ofConst, Value.oneCell']; (with_reducible refine hK _ ?_))
      (refine WpA_ret ⟨.inr rfl, ret_now rfl ?_ rfl⟩; simp (disch := omega) only [resA, Tryz.results50, resL, resOne, List.getElem?_cons_succ, List.getElem?_cons_zero, Option.bind_some, tvPair, Option.map_some])
structure RdcG (n : Nat) (f0 h T : Nat → Nat → Int) where
  f : Nat → Nat → Int
  t : Nat → Nat → Int
  s : Nat
  adds : Nat
  inv : RedI n f0 f t s adds
  rch : Rch n f t h T
theorem idF_sz (a b : Nat) : Sz (idF a b) 1 := by unfold idF; split <;> exact sz_lt (by decide) (by omega)
theorem rch_red {n : Nat} {f0 f t h T : Nat → Nat → Int} (hn1 : 1 ≤ n) (hn : n ≤ 8) (hd : dk f0 n ≤ 10000) (hr : Rch n f t h T) : ∀ s adds, RedI n f0 f t s adds → RedR h n := by
  induction hr with
  | done f t hc => exact fun s adds hI => hI.red hn1 hd hc
  | step f t h T c hc _ ih =>
    intro s adds hI
    cases c with
    | add i j => exact ih _ _ (hI.add hn hc).1
    | swp m => exact ih _ _ (hI.swap hn hc)
theorem mul_ch_sz {n : Nat} {f0 f t : Nat → Nat → Int} {s adds : Nat} (h : RedI n f0 f t s adds) (hn : n ≤ 8) {c : Ch} (hc : scanF f n = some c) : ∀ a b, a < n → b < n → Sz (chT f c a b) 42 := fun a b ha hb => by
  obtain ⟨hF, hi⟩ := scanF_some hc
  cases c with
  | add i j =>
    have hi : i < n := hi
    show Sz (adT i j (cF f i j) a b) 42
    rcases upd_cases idF j i (cF f i j) a b with e | e
    · unfold adT; rw [e]; exact (h.szc hn hi hF.1).mono (by omega)
    · unfold adT; rw [e]; exact (idF_sz a b).mono (by omega)
  | swp m => exact (idF_sz _ b).mono (by omega)
theorem cng_ch {n : Nat} (f : Nat → Nat → Int) {c : Ch} (hc : scanF f n = some c) : mat n n (cngF n f (chT f c)) = mat n n (chF f c) := by
  obtain ⟨hF, hi⟩ := scanF_some hc
  refine mat_congr fun a b ha hb => ?_
  cases c with
  | add i j => exact cng_add (by have := hF.1; omega) (by have : i < n := hi; have := hF.1; omega) f a b ha hb
  | swp m => exact cng_sw hi f a b ha hb
set_option maxRecDepth 100000 in
set_option maxHeartbeats 16000000 in
theorem Reduce_C (n : Nat) (f : Nat → Nat → Int) (hn1 : 1 ≤ n) (hn : n ≤ 8) (hb : Bd9 f) (hg : GoodP n f) :
    ∃ h T, RedR h n ∧ CallC Tryz.prog 27 [slM (mat n n f)] ⟨[], .tup [(false, [.p (.sl (ls (fR fI) (mat n n h)))]), (false, [.p (.sl (ls (fR fZ) (mat n n T)))]), (false, [.p (.raw (.int .i64 0))])]⟩ := by
  obtain ⟨hs, hp, hd⟩ := hg
  have hst : RedI n f f idF 0 0 := RedI.start hn1 hn hs hp (fun a b => by have := hb a b; omega) (fun a b _ _ => idF_sz a b)
  have hdk : dk f n ≤ 10000 := by
    have := (pos_dk hp (n - 1) (by omega)).2
    rw [show n - 1 + 1 = n by omega] at this
    omega
  obtain ⟨h, T, hr⟩ := rch_exists (f0 := f) hn _ f idF 0 0 (Nat.le_refl _) hst
  have hred := rch_red hn1 hn hdk hr 0 0 hst
  refine ⟨h, T, hred, ?_⟩
  have hI9 : ∀ i j : Nat, I64 (f i j) := hb.i64
  have hsz : ∀ i j, i < n → j < n → Sz (f i j) 1024 := fun i j _ _ => (hI9 i j).sz (by omega)
  obtain ⟨e, he, c1⟩ := Validate_C n n f hn1 (by omega) hn1 (by omega) hsz
  have he0 : e = 0 := he.2 ⟨rfl, hn, hs, hp⟩
  subst he0
  have c2 := small8_C n f hn1 (by omega) hsz
  rw [decide_eq_true hd] at c2
  have c3 := Copy_C n n f (by omega) hn1 (by omega) (fun i j hi hj => (hsz i j hi hj).mono (by omega))
  have c4 := Identity_C n hn1 (by omega)
  have hml := mat_len n n f
  refine callC_of Tryz.func27 rfl (by kernel_rfl) ?_; rw [Tryz.ntmps27]
  (refine WpA_sreg [] [] (by simp) fun K hK => ?_; simp (disch := omega) only [kc, prep1, Nat.reduceAdd, slM, List.replicate, ofConst, Value.oneCell']; (with_reducible refine hK _ ?_))
  (refine WpA_seq (WpA_sreg [⟨1, _, _, _, c1⟩] [] (by simp) fun K hK => ?_); simp (disch := omega) only [kc, slM, CItem.a, prep1, Nat.reduceAdd, opS_call, newS, effA, List.find?_cons, evAll, norm, CallRes.plain, rawTV, rawAV, normOk, noRefTV, noRefAV, renTV, renAV]; (with_reducible refine hK _ ?_))
  (refine WpA_sreg [] [] (by simp) fun K hK => ?_; simp (disch := omega) only [kc, prep1, effM, ofConst, Value.oneCell', evBin, decT]; (with_reducible refine hK _ ?_))
  refine WpA_cond rfl (fun h => by simp at h) (fun _ => WpA_skip ?_)
  show WpA _ _ _ _
  (refine WpA_seq (WpA_sreg [⟨1, _, _, _, c2⟩] [] (by simp) fun K hK => ?_); simp (disch := omega) only [kc, slM, CItem.a, prep1, Nat.reduceAdd, opS_call, newS, effA, List.find?_cons, evAll, norm, CallRes.plain, rawTV, rawAV, normOk, noRefTV, noRefAV, renTV, renAV, opS_un, effM, evUn]; (with_reducible refine hK _ ?_))
  refine WpA_cond rfl (fun h => by simp at h) (fun _ => WpA_skip ?_)
  show WpA _ _ _ _
  (refine WpA_sreg [⟨1, _, _, _, c3⟩] [] (by simp) fun K hK => ?_; simp (disch := omega) only [kc, slM, CItem.a, prep1, Nat.reduceAdd, opS_call, newS, effA, List.find?_cons, evAll, norm, CallRes.plain, List.isEmpty_cons, rawTV, rawAV, normOk, Bool.not_false, noRefTV, noRefAV, Bool.or_false, renTV, renAV, renO]; (with_reducible refine hK _ ?_))
  (refine WpA_sreg [⟨2, _, _, _, c4⟩] [] (by simp) fun K hK => ?_; simp (disch := omega) only [kc, CItem.a, prep1, Nat.reduceAdd, opS_len, effR, ty_slice50, ls_len, hml, opS_call, newS, effA, List.find?_cons, evAll, norm, CallRes.plain, List.isEmpty_cons, rawTV, rawAV, normOk, Bool.not_false, noRefTV, noRefAV, Bool.or_false, renTV, renAV, renO, updH, Nat.reduceEqDiff, opS_extract, effM]; (with_reducible refine hK _ ?_))
  refine WpA_forb (G := RdcG n f h T) (fun g => ⟨[jk, jk, jk, jk, jk, jk, slM (mat n n g.f), slM (mat n n g.t), jk, jk, jk, jk, jk, jk, jk, jk, jk, jk, jk, jk, jk, jk, jk, jk, jk, jk, jk, jk, jk, jk, jk, jk, jk, jk, jk, jk, jk, jk, jk, jk, jk, jk, jk, jk, jk, jk, jk, jk, jk], Hm []⟩) (fun g => muR n g.f g.s) ⟨f, idF, 0, 0, hst, hr⟩ ?_ ?_
  · refine (Weak_sub (tm := [jk, jk, jk, jk, jk, jk, .one (.sl 22 0 0 n), .one (.sl 26 0 0 n), jk, jk, jk, jk, jk, jk, jk, jk, jk, jk, jk, jk, jk, jk, jk, jk, jk, jk, jk, jk, jk, jk, jk, jk, jk, jk, jk, jk, jk, jk, jk, jk, jk, jk, jk, jk, jk, jk, jk, jk, jk]) (l := [(22, mxF 22 n n f), (26, mxF 26 n n idF)]) ⟨mxF_ren 0 22 n n _, mxF_ren 0 26 n n _, trivial⟩ (by simp [wkL, okTV, okAV])).trans ((Weak_fz 22 (fzOk_mx rfl)).trans ((Weak_sub (tm := [jk, jk, jk, jk, jk, jk, slM (mat n n f), .one (.sl 26 0 0 n), jk, jk, jk, jk, jk, jk, jk, jk, jk, jk, jk, jk, jk, jk, jk, jk, jk, jk, jk, jk, jk, jk, jk, jk, jk, jk, jk, jk, jk, jk, jk, jk, jk, jk, jk, jk, jk, jk, jk, jk, jk]) (l := [(26, mxF 26 n n idF)]) ⟨rfl, trivial⟩ (by
      simp [wkL, okTV, okAV]
      exact ⟨(fzM (H := Hm [(22, mxF 22 n n f), (26, mxF 26 n n idF)]) (d := 22) (n := n) (c := n) (f := f) rfl).symm, rfl⟩)).trans ((Weak_fz 26 (fzOk_mx rfl)).trans (Weak_sub trivial ?_))))
    simp [wkL, okTV, okAV]
    exact ⟨rfl, (fzM (H := Hm [(26, mxF 26 n n idF)]) (d := 26) (n := n) (c := n) (f := idF) rfl).symm⟩
  · rintro ⟨g, t, s, adds, hI, hrc⟩
    simp only
    have cs := step_C n g hn1 hn hI.dfn.pos (fun i j hi hj => (hI.szf hn hi hj).mono (by omega))
    cases hc : scanF g n with
    | none =>
      obtain ⟨rfl, rfl⟩ : g = h ∧ t = T := by
        cases hrc with
        | done _ _ _ => exact ⟨rfl, rfl⟩
        | step _ _ _ _ c hc' _ => rw [hc] at hc'; cases hc'
      have hes := ent_small hn1 hn hred
      have ct := ToInts_C n n g hn1 (by omega) hn1 (by omega) (fun i j hi hj => by have := hes i hi j hj; exact ⟨by omega, by omega⟩)
      rw [hc] at cs
      refine WpA_block ?_
      (refine WpA_sreg [⟨1, _, _, _, cs⟩] [] (by simp) fun K hK => ?_; simp (disch := omega) only [kc, slM, stT, CItem.a, prep1, Nat.reduceAdd, Hm, opS_call, newS, effA, List.find?_cons, evAll, norm, CallRes.plain, rawTV, rawAV, normOk, noRefTV, noRefAV, renTV, renAV, opS_extract, effM]; (with_reducible refine hK _ ?_))
      (refine WpA_seq (WpA_sreg [] [] (by simp) fun K hK => ?_); simp (disch := omega) only [kc, prep1, opS_un, effM, evUn, Bool.not_false]; (with_reducible refine hK _ ?_))
      refine WpA_cond rfl (fun _ => ?_) (fun h => by simp at h)
      (refine WpA_sreg [⟨1, _, _, _, ct⟩] [] (by simp) fun K hK => ?_; simp (disch := omega) only [kc, slM, CItem.a, prep1, Nat.reduceAdd, opS_call, newS, effA, List.find?_cons, evAll, norm, CallRes.plain, rawTV, rawAV, normOk, noRefTV, noRefAV, renTV, renAV, opS_extract, effM]; (with_reducible refine hK _ ?_))
      (refine WpA_sreg [] [] (by simp) fun K hK => ?_; simp (disch := omega) only [kc, prep1, Nat.reduceAdd, ofConst, Value.oneCell']; (with_reducible refine hK _ ?_))
      (refine WpA_ret ⟨.inr rfl, ret_now rfl ?_ rfl⟩; simp (disch := omega) only [resA, Tryz.results27, resL, resOne, List.getElem?_cons_succ, List.getElem?_cons_zero, Option.bind_some, tvPair, Option.map_some])
    | some c =>
      have hrc' : Rch n (chF g c) (mulF n t (chT g c)) h T := by
        cases hrc with
        | done _ _ hc' => rw [hc] at hc'; cases hc'
        | step _ _ _ _ c' hc' hr' =>
          rw [hc] at hc'
          injection hc' with hc'
          subst hc'
          exact hr'
      rw [hc] at cs
      have hch := mul_ch_sz hI hn hc
      have ha := hI.adds_le hn
      have cc := Congruent_C n g (chT g c) hn1 (by omega) (fun i j hi hj => (hI.szf hn hi hj).mono (by omega)) (fun i j hi hj => (hch i j hi hj).mono (by omega))
      rw [cng_ch g hc] at cc
      have cp := Product_M n n n t (chT g c) hn1 (by omega) hn1 (by omega) hn1 (by omega) (fun i j hi hj => (hI.szt i j hi hj).mono (by omega)) (fun i j hi hj => (hch i j hi hj).mono (by omega))
      refine WpA_block ?_
      (refine WpA_sreg [⟨1, _, _, _, cs⟩] [] (by simp) fun K hK => ?_; simp (disch := omega) only [kc, slM, stT, CItem.a, prep1, Nat.reduceAdd, Hm, opS_call, newS, effA, List.find?_cons, evAll, norm, CallRes.plain, rawTV, rawAV, normOk, noRefTV, noRefAV, renTV, renAV, opS_extract, effM]; (with_reducible refine hK _ ?_))
      (refine WpA_seq (WpA_sreg [] [] (by simp) fun K hK => ?_); simp (disch := omega) only [kc, prep1, opS_un, effM, evUn]; (with_reducible refine hK _ ?_))
      refine WpA_cond rfl (fun h => by simp at h) (fun _ => WpA_skip ?_)
      show WpA _ _ _ _
      ((refine WpA_lreg [⟨2, _, _, _, cc⟩, ⟨5, _, _, _, cp⟩] [] (by simp) fun K hK => ?_); simp (disch := omega) only [kc, slM, CItem.a, prep1, Nat.reduceAdd, opS_call, newS, effA, List.find?_cons, evAll, norm, CallRes.plain, rawTV, rawAV, normOk, noRefTV, noRefAV, renTV, renAV, Nat.reduceBEq]; (with_reducible refine hK _ ?_))
      cases c with
      | add i j =>
        refine ⟨⟨_, _, s, adds + 1, (hI.add hn hc).1, hrc'⟩, hI.mu_add hn hc, Weak_sub trivial ?_⟩
        simp [wkL, okTV, okAV]; exact ⟨rfl, rfl⟩
      | swp m =>
        refine ⟨⟨_, _, s + 1, adds, hI.swap hn hc, hrc'⟩, hI.mu_swap hn hc, Weak_sub trivial ?_⟩
        simp [wkL, okTV, okAV]; exact ⟨rfl, rfl⟩
theorem diag_bk {f : Nat → Nat → Int} (h0 : ∀ a b, a ≠ b → f a b = 0) (h1 : ∀ a, 0 < f a a) : ∀ k, (0 < dk f k ∧ ∀ t, t < k → 0 < dk f (t + 1)) ∧ ∀ a b, k ≤ a → k ≤ b → bk f k a b = dk f k * f a b
  | 0 => ⟨⟨by rw [dk_zero]; omega, fun t ht => by omega⟩, fun a b _ _ => by rw [bk_zero, dk_zero, Int.one_mul]⟩
  | k + 1 => by
    obtain ⟨⟨p0, p1⟩, p2⟩ := diag_bk h0 h1 k
    have e : dk f (k + 1) = dk f k * f k k := by rw [dk_succ, p2 k k (by omega) (by omega)]
    have hpos : 0 < dk f (k + 1) := by rw [e]; exact Int.mul_pos p0 (h1 k)
    refine ⟨⟨hpos, fun t ht => ?_⟩, fun a b ha hb => ?_⟩
    · by_cases et : t = k
      · subst et; exact hpos
      · exact p1 t (by omega)
    · have s := sylv f k (fun t ht => by have := p1 t ht; omega) a b
      rw [p2 a b (by omega) (by omega), p2 a k (by omega) (by omega), h0 a k (by omega), Int.mul_zero, Int.zero_mul, Int.sub_zero] at s
      refine Int.eq_of_mul_eq_mul_left (show dk f k ≠ 0 by omega) ?_
      rw [s]; exact Int.mul_left_comm _ _ _
theorem diag_le {f : Nat → Nat → Int} (h0 : ∀ a b, a ≠ b → f a b = 0) (h1 : ∀ a, 0 < f a a) (h2 : ∀ a, f a a ≤ 2) : ∀ k, dk f k ≤ 2 ^ k
  | 0 => by rw [dk_zero]; decide
  | k + 1 => by
    obtain ⟨⟨p0, _⟩, p2⟩ := diag_bk h0 h1 k
    rw [dk_succ, p2 k k (by omega) (by omega), Int.pow_succ]
    have ih := diag_le h0 h1 h2 k
    exact Int.mul_le_mul ih (h2 k) (Int.le_of_lt (h1 k)) (Int.le_trans (Int.le_of_lt p0) ih)
theorem dg2_good (L : List Int) (p n : Nat) (hn1 : 1 ≤ n) (hn : n ≤ 8) : GoodP n (dgF L p 2) := by
  have h0 : ∀ a b, a ≠ b → dgF L p 2 a b = 0 := fun a b h => by unfold dgF; rw [if_neg h]
  have h1 : ∀ a, 0 < dgF L p 2 a a := fun a => by unfold dgF; rw [if_pos rfl]; omega
  have h2 : ∀ a, dgF L p 2 a a ≤ 2 := fun a => by
    unfold dgF
    rw [if_pos rfl]
    have := belF_lt (n := 2) L (adv L p a) (by omega)
    omega
  have hpos : ∀ k, 0 < dk (dgF L p 2) (k + 1) := fun k => (diag_bk h0 h1 (k + 1)).1.1
  have hdet : ∀ k, detF (k + 1) (dgF L p 2) = dk (dgF L p 2) (k + 1) := fun k => detF_dk fun t _ => by have := hpos t; omega
  refine ⟨fun a _ b _ => ?_, fun k _ => by rw [hdet]; exact hpos k, ?_⟩
  · by_cases e : a = b
    · rw [e]
    · rw [h0 a b e, h0 b a (Ne.symm e)]
  · have e := hdet (n - 1)
    rw [show n - 1 + 1 = n by omega] at e
    rw [e]
    have h3 := diag_le h0 h1 h2 n
    have h4 : (2 : Int) ^ n ≤ 2 ^ 8 := by
      have := Nat.pow_le_pow_right (show 0 < 2 by omega) hn
      exact_mod_cast this
    have h5 : (2 : Int) ^ 8 = 256 := by decide
    omega
theorem gramF_good (kind : Nat) (L : List Int) (n : Nat) (hn1 : 1 ≤ n) (hn : n ≤ 8) : GoodP n (gramF kind L n) ∧ Bd9 (gramF kind L n) := by
  unfold gramF
  split
  · rename_i h; exact ⟨h, rawG_bd kind L n⟩
  · exact ⟨dg2_good L _ n hn1 hn, dgF_bd (by omega) (by omega)⟩
set_option maxRecDepth 100000 in
set_option maxHeartbeats 16000000 in
theorem Form_C (dim kind : Nat) (L B : List Int) (most n : Nat) (hL : I8 L) (hdim : dim ≤ 255) (hkind : kind ≤ 255) (hm1 : 1 ≤ most) (hm8 : most ≤ 8) (hn : n = 1 + dim % most) :
    ∃ h, RedR h n ∧ CallC Tryz.prog 9 [tL dim kind L B, .raw (.int .i64 (most : Int))] ⟨[], slI (mat n n h)⟩ := by
  have hn1 : 1 ≤ n := by omega
  have hn8 : n ≤ 8 := by have := Nat.mod_lt dim (show 0 < most by omega); omega
  have c1 := Gram_C dim kind L B most n hL hdim hkind hm1 hm8 hn
  obtain ⟨hg, hb⟩ := gramF_good kind L n hn1 hn8
  obtain ⟨h, T, hr, c3⟩ := Reduce_C n (gramF kind L n) hn1 hn8 hb hg
  have c2 := Of_C n n (gramF kind L n) hn1 (by omega) hn1 (by omega) (fun i j _ _ => hb.i64 i j)
  refine ⟨h, hr, ?_⟩
  generalize gramF kind L n = gg at *
  refine callC_of Tryz.func9 rfl (by kernel_rfl) ?_; rw [Tryz.ntmps9]
  (refine WpA_sreg [] [] (by simp) fun K hK => ?_; simp (disch := omega) only [kc, prep1, tL, Nat.reduceAdd, List.replicate, opS_box, newS, effA, cellsOf, isPure, ifT, ofConst, Value.oneCell']; (with_reducible refine hK _ ?_))
  (refine WpA_sreg [⟨2, _, _, _, c1⟩, ⟨3, _, _, _, c2⟩, ⟨4, _, _, _, c3⟩] [] (by simp) fun K hK => ?_; simp (disch := omega) only [kc, tL, slI, slM, CItem.a, prep1, Nat.reduceAdd, effR, updH, packT, ty_sz24, ty_agg24, Nat.le_refl, opS_call, newS, effA, List.find?_cons, evAll, norm, CallRes.plain, rawTV, rawAV, normOk, isPure, noRefTV, noRefAV, renTV, renAV, Nat.reduceBEq, opS_extract, effM]; (with_reducible refine hK _ ?_))
  (refine WpA_sreg [] [] (by simp) fun K hK => ?_; simp (disch := omega) only [kc, prep1]; (with_reducible refine hK _ ?_))
  (refine WpA_ret ⟨.inr rfl, ret_now rfl ?_ rfl⟩; simp (disch := omega) only [resA, Tryz.results9, resOne, List.getElem?_cons_succ, List.getElem?_cons_zero, slI])
end Go.Proofs.YtobnpabndpmabaaGreat
namespace Go.Proofs.YtobnpabndpmabaaGreat
open Go.RowKit
def vcF (L : List Int) : Nat → Int := fun i => L.getD (adv L 0 i) 0
abbrev sl8 (l : List Int) : TV := .one (.p (.sl (ls f8 l)))
def vcP (L : List Int) (i : Nat) : Nat → Int := fun j => if j < i then vcF L j else 0
theorem vcP_step (L : List Int) (i j : Nat) : (if j = i then vcF L i else vcP L i j) = vcP L (i + 1) j := by
  unfold vcP
  by_cases h : j = i
  · subst h; simp
  · have : j < i + 1 ↔ j < i := by omega
    simp [h, this]
theorem lcI_set (l : List Int) (k : Nat) (v : Int) : (lc fI l).set k [AV.p (.raw (.int .i64 v))] = lc fI (l.set k v) := by simp [lc, fI, List.map_set]
theorem rep_row0 (n : Nat) (L : List Int) : List.replicate n [AV.p (.raw (.int .i64 0))] = lc fI (rowF n (vcP L 0)) := by
  apply List.ext_getElem?
  intro j
  rw [List.getElem?_replicate, lc_get]
  by_cases hj : j < n
  · rw [if_pos hj, rowF_get _ hj]; simp [vcP, fI]
  · rw [if_neg hj, List.getElem?_eq_none (by rw [rowF_len]; omega)]; rfl
set_option maxRecDepth 100000 in
set_option maxHeartbeats 16000000 in
theorem Vector_C (L : List Int) (n : Nat) (hL : I8 L) (hn : n ≤ 16) : CallC Tryz.prog 10 [sl8 L, .raw (.int .i64 (n : Int))] ⟨[⟨2, 1, lc fI (rowF n (vcF L))⟩], .one (.sl 0 0 0 n)⟩ := by
  refine callC_of Tryz.func10 rfl (by kernel_rfl) ?_; rw [Tryz.ntmps10]
  (refine WpA_sreg [] [] (by simp) fun K hK => ?_; simp (disch := omega) only [kc, prep1, sl8, Nat.reduceAdd, List.replicate, ofConst, Value.oneCell']; (with_reducible refine hK _ ?_))
  (refine WpA_sreg [] [] (by simp) fun K hK => ?_; simp (disch := omega) only [kc, prep1, Nat.reduceAdd, opS_build, effR, ty_zero57, ty_plc57, Value.oneCell', fillA, cellsOf, Nat.reduceLeDiff, ifT, opS_box, newS, effA, isPure]; (with_reducible refine hK _ ?_))
  refine WpA_lend 10 (cs := tcs L 0) rfl fun b => ?_
  refine WpT.weak (Weak_sub (tm := [jk, .raw (.int .i64 (n : Int)), jk, jk, jk, tptr b, jk, jk, jk, jk, jk, jk, jk, jk, jk, jk, jk, jk, jk, jk, jk, jk, jk, jk, jk]) (l := []) trivial (by simp [wkL, okTV, okAV, lnTV, lnAV])) ?_
  (refine WpT_sreg [] [] (by simp) fun K hK => ?_; simp (disch := omega) only [kc, prep1, Nat.reduceAdd, tptr, Hm, opS_makeSlice, newS, effA, ty_slice29, ty_zero2, ty_sz2, ty_by2, Int.natCast_nonneg, Value.oneCell', and_true, rep_row0 n L, ifT]; (with_reducible refine hK _ ?_))
  (refine WpT_seq (WpT_sreg [] [] (by simp) fun K hK => ?_); simp (disch := omega) only [kc, prep1, Nat.reduceAdd, opS_len, effR, ty_slice29, ofConst, Value.oneCell']; (with_reducible refine hK _ ?_))
  refine WpT_forb (G := FiG n) (fun g => ⟨[jk, jk, jk, jk, jk, tptr b, .one (.sl 12 0 0 n), jk, jk, jk, jk, jk, jk, jk, .raw (.int .i64 (n : Int)), .raw (.int .i64 (g.i : Int)), jk, jk, jk, jk, jk, jk, jk, jk, jk], Hm [(12, [⟨2, 1, lc fI (rowF n (vcP L g.i))⟩])]⟩) (fun g => tcs L (adv L 0 g.i)) (fun g => n - g.i) ⟨0, by omega⟩ ?_ rfl ?_
  · refine Weak_sub ⟨?_, trivial⟩ ?_
    · show [_] = [_]
      rw [← rep_row0 n L]
    · simp [wkL, okTV, okAV]
  · rintro ⟨i, hi⟩
    simp only
    by_cases hm : i < n
    · have c1 := Next_T b L (adv L 0 i) hL (adv_le (by omega) i)
      rw [show L.getD (adv L 0 i) 0 = vcF L i from rfl] at c1
      have g1 := rowF_get (vcP L i) hm
      (refine WpT_sreg [] [] (by simp) fun K hK => ?_; simp (disch := omega) only [kc, prep1, tptr, Hm, effM, evBin, decT]; (with_reducible refine hK _ ?_))
      refine WpT_seq (WpT_cond rfl (fun _ => WpT_skip ?_) (fun h => by simp at h <;> omega))
      refine WpT_seq (WpT_block ?_)
      (refine WpT_sreg [] [] (by simp) fun K hK => ?_; simp (disch := omega) only [kc, prep1]; (with_reducible refine hK _ ?_))
      ((refine WpT_llent 3 c1 [] [] (by kernel_rfl) (by rfl) (by rfl) (by simp) fun K hK => ?_); simp (disch := omega) only [kc, tptr, prep1, Nat.reduceAdd, opS_call, newS, effA, List.find?_cons, evAll, norm, CallRes.plain, rawTV, rawAV, normOk, noRefTV, noRefAV, renTV, renAV, opS_indexAddr, effR, natOf_pos, ty_slice29, ty_sz2, ifT, opS_store, wrS, effD, lc_get, fI, g1, cellsOf, Nat.le_refl, isPure, putCells, lcI_set, rowF_set, killTV, killAV]; (with_reducible refine hK _ ?_))
      show WpT _ _ _ _ _ _ _
      ((refine WpT_lreg [] [] (by simp) fun K hK => ?_); simp (disch := omega) only [kc, prep1, effM, ofConst, Value.oneCell', evBin, wrapI]; (with_reducible refine hK _ ?_))
      refine ⟨⟨i + 1, by omega⟩, by simp only; omega, Weak_sub ⟨?_, trivial⟩ ?_, rfl⟩
      · show [_] = [_]
        rw [rowF_congr fun j _ => vcP_step L i j]
      · simp [wkL, okTV, okAV]
    · have hin : i = n := by omega
      subst hin
      (refine WpT_sreg [] [] (by simp) fun K hK => ?_; simp (disch := omega) only [kc, prep1, tptr, Hm, effM, evBin, decF]; (with_reducible refine hK _ ?_))
      refine WpT_seq (WpT_cond rfl (fun h => by simp at h <;> omega) (fun _ => WpT_exit ?_))
      show WpT _ _ _ _ _ _ _
      rw [rowF_congr (g := vcP L i) (g' := vcF L) fun j hj => by unfold vcP; rw [if_pos hj]]
      (refine WpT_sreg [] [] (by simp) fun K hK => ?_; simp (disch := omega) only [kc, prep1]; (with_reducible refine hK _ ?_))
      refine WpT_ret ⟨.inr rfl, _, Weak.refl _, ?_⟩
      refine ⟨.one (.sl 12 0 0 i), 12, ?_, rfl, ?_, rfl⟩
      · simp (disch := omega) only [resA, Tryz.results10, resOne, List.getElem?_cons_succ, List.getElem?_cons_zero]
      · show _ = [_]
        simp [renO, lc_ren]
theorem MI_red {h : Nat → Nat → Int} {n : Nat} (hn1 : 1 ≤ n) (hn : n ≤ 8) (hr : RedR h n) : MI (mat n n h) := fun r hr' z hz => by
  obtain ⟨i, hi, rfl⟩ := List.mem_map.1 hr'
  obtain ⟨j, hj, rfl⟩ := List.mem_map.1 hz
  have := ent_small hn1 hn hr i (List.mem_range.1 hi) j (List.mem_range.1 hj)
  exact ⟨by omega, by omega⟩
end Go.Proofs.YtobnpabndpmabaaGreat
namespace Go.Proofs.YtobnpabndpmabaaGreat
open Go.ChangeShapes Go.WideShapes Go.ChangeAt Go.RowKit
theorem rd8_rep {w : World} {l : List Int} {A : Option Addr} {c : Nat} (hl : l.length ≤ c) (hm : l.length ≤ 9223372036854775807) (h : RdI .i8 w A l) : Rep (fun _ => False) w (.sl (ls f8 l)) (.slice A l.length c) := by
  cases l with
  | nil => exact Rep.nil _ _
  | cons z0 l0 =>
    obtain ⟨b, off, rfl, hc⟩ := h (by simp)
    have h0 := hc 0 (.int .i8 z0) (by simp)
    have hb : b < w.heap.size := cell_lt h0
    have := Rep.sl (X := fun _ => False) (w := w) b off 1 c (ls f8 (z0 :: l0)) (fun i _ => .int .i8 ((z0 :: l0).getD i 0)) (fun h => h) hb (fun e he => by
      obtain ⟨z, _, rfl⟩ := List.mem_map.1 he
      rfl) (by rw [ls_len]; exact hl) (by rw [ls_len]; exact hm) (fun i e j x he hx => by
      rw [ls_get] at he
      obtain ⟨z, hz, rfl⟩ := Option.map_eq_some_iff.1 he
      cases j with
      | succ j => simp [f8] at hx
      | zero =>
        have := hc i (.int .i8 z) (by rw [List.getElem?_map, hz]; rfl)
        simp only [Nat.mul_one, Nat.add_zero, List.getD_eq_getElem?_getD, hz, Option.getD_some]
        exact this) (fun i e j x he hx => by
      rw [ls_get] at he
      obtain ⟨z, hz, rfl⟩ := Option.map_eq_some_iff.1 he
      cases j with
      | succ j => simp [f8] at hx
      | zero =>
        simp [f8] at hx
        subst hx
        simp only [List.getD_eq_getElem?_getD, hz, Option.getD_some]
        exact Rep.raw _ rfl)
    rw [ls_len] at this
    exact this
theorem open_cell8 {H : Type} {enc : TypeId × Value → H} {P : Program} {W : World} {base : Nat} {held : Bool} {t e : TypeId} {n : Nat} {v : Value} {y : DataW H × List MemPlace}
    (ht : P.underlying t = some (.slice e)) (he : P.underlying e = some (.int .i8)) (hc : P.cellsOf e = 1) (h : DataW.trod enc P W base (fun _ => true) held n t [v] = some y) :
    ∃ L : List Int, Rep (fun _ => False) W (.sl (ls f8 L)) v ∧ I8 L := by
  rcases DataW.trod_slice ht h with ⟨hcs, _⟩ | ⟨x, l, c, _, _, _, _, hcs, _⟩
  · simp at hcs
    subst hcs
    exact ⟨[], Rep.nil _ _, fun z hz => by simp at hz⟩
  · simp at hcs
    subst hcs
    obtain ⟨zs, g1, g2, g3, g4, g5, _⟩ := open_rdI (enc := enc) (base := base) (held := held) (d := y.1) (p := y.2) ht he hc ⟨n, by simpa [Value.cells] using h⟩
    refine ⟨zs, ?_, fun z hz => wf_i8_bd (g5 z hz)⟩
    rw [g1]
    unfold maxLen at g3
    exact rd8_rep (by omega) (by omega) g4
theorem open_cellU {H : Type} {enc : TypeId × Value → H} {P : Program} {W : World} {base : Nat} {held : Bool} {t : TypeId} {n : Nat} {v : Value} {y : DataW H × List MemPlace}
    (ht : P.underlying t = some (.int .u8)) (h : DataW.trod enc P W base (fun _ => true) held n t [v] = some y) : ∃ m : Nat, v = .int .u8 (m : Int) ∧ m ≤ 255 := by
  obtain ⟨m, hv, _, hw⟩ := DataW.trod_int ht h
  have := wf_u8_bd hw
  refine ⟨m.toNat, ?_, by omega⟩
  simp at hv
  rw [hv]
  congr 1
  omega
theorem rel_L {w : World} {d k : Nat} {L B : List Int} {v2 v3 : Value} (h2 : Rep (fun _ => False) w (.sl (ls f8 L)) v2) (h3 : Rep (fun _ => False) w (.sl (ls f8 B)) v3) :
    (tL d k L B).rel (fun _ _ => none) (fun _ => []) (fun _ => False) w (.agg #[.int .u8 (d : Int), .int .u8 (k : Int), v2, v3]) := by
  refine ⟨#[.int .u8 (d : Int), .int .u8 (k : Int), v2, v3], rfl, rfl, fun j x hx => ?_⟩
  match j, hx with
  | 0, hx => simp at hx; subst hx; exact ⟨_, rfl, rfl, Rep.raw _ rfl⟩
  | 1, hx => simp at hx; subst hx; exact ⟨_, rfl, rfl, Rep.raw _ rfl⟩
  | 2, hx => simp at hx; subst hx; exact ⟨_, rfl, h2.one, h2⟩
  | 3, hx => simp at hx; subst hx; exact ⟨_, rfl, h3.one, h3⟩
  | j + 4, hx => simp at hx
theorem argsT {w : World} : ∀ {ts : List TV} {vs : List Value}, ts.length = vs.length → (∀ (j : Nat) t v, ts[j]? = some t → vs[j]? = some v → t.rel (fun _ _ => none) (fun _ => []) (fun _ => False) w v) →
    ∀ (j : Nat) t, ts[j]? = some t → ∃ v : Value, vs.toArray[j]? = some v ∧ t.rel (fun _ _ => none) (fun _ => []) (fun _ => False) w v := fun {ts vs} hl h j t hj => by
  have hlt := (List.getElem?_eq_some_iff.1 hj).1
  obtain ⟨v, hv⟩ : ∃ v, vs[j]? = some v := ⟨_, List.getElem?_eq_getElem (by omega)⟩
  exact ⟨v, by simpa using hv, h j t v hj hv⟩
end Go.Proofs.YtobnpabndpmabaaGreat
namespace Go.Proofs.YtobnpabndpmabaaGreat
open Go.RowKit
theorem cmpL_self : ∀ x : List Int, cmpL x x = 0
  | [] => rfl
  | a :: x => by simp [cmpL, cmpL_self x]
theorem cmpL_eq : ∀ {x y : List Int}, cmpL x y = 0 → x = y
  | [], [], _ => rfl
  | [], _ :: _, h => by simp [cmpL] at h
  | _ :: _, [], h => by simp [cmpL] at h
  | a :: x, b :: y, h => by
    unfold cmpL at h
    split at h
    · omega
    · split at h
      · omega
      · rw [cmpL_eq h, show a = b from by omega]
theorem cmpL_range : ∀ (x y : List Int), cmpL x y = -1 ∨ cmpL x y = 0 ∨ cmpL x y = 1
  | [], [] => by simp [cmpL]
  | [], _ :: _ => by simp [cmpL]
  | _ :: _, [] => by simp [cmpL]
  | a :: x, b :: y => by
    have := cmpL_range x y
    unfold cmpL
    split
    · simp
    · split
      · simp
      · exact this
theorem cmpL_anti : ∀ (x y : List Int), cmpL y x = - cmpL x y
  | [], [] => by simp [cmpL]
  | [], _ :: _ => by simp [cmpL]
  | _ :: _, [] => by simp [cmpL]
  | a :: x, b :: y => by
    have := cmpL_anti x y
    unfold cmpL
    by_cases h1 : a < b
    · rw [if_pos h1, if_neg (by omega), if_pos h1]; rfl
    · by_cases h2 : b < a
      · rw [if_pos h2, if_neg h1, if_pos h2]
      · rw [if_neg h2, if_neg h1, if_neg h1, if_neg h2, this]
theorem cmpL_trans : ∀ {x y z : List Int}, cmpL x y < 0 → cmpL y z < 0 → cmpL x z < 0
  | [], [], _, h, _ => by simp [cmpL] at h
  | _ :: _, [], _, h, _ => by simp [cmpL] at h
  | [], _ :: _, [], _, h => by simp [cmpL] at h
  | [], _ :: _, _ :: _, _, _ => by simp [cmpL]
  | _ :: _, _ :: _, [], _, h => by simp [cmpL] at h
  | a :: x, b :: y, c :: z, h1, h2 => by
    unfold cmpL at h1 h2 ⊢
    by_cases p1 : a < b
    · by_cases p2 : b < c
      · rw [if_pos (by omega)]; omega
      · rw [if_neg p2] at h2
        by_cases p3 : c < b
        · rw [if_pos p3] at h2; omega
        · rw [if_pos (by omega)]; omega
    · rw [if_neg p1] at h1
      by_cases p3 : b < a
      · rw [if_pos p3] at h1; omega
      · rw [if_neg p3] at h1
        by_cases p2 : b < c
        · rw [if_pos (by omega)]; omega
        · rw [if_neg p2] at h2
          by_cases p4 : c < b
          · rw [if_pos p4] at h2; omega
          · rw [if_neg p4] at h2
            rw [if_neg (by omega), if_neg (by omega)]
            exact cmpL_trans h1 h2
theorem cmpN_eq (k1 : Int) (x : List Int) (k2 : Int) (y : List Int) : cmpN k1 x k2 y = if k1 < k2 then -1 else if k2 < k1 then 1 else cmpL x y := by
  have hr := cmpL_range x y
  unfold cmpN orL orL orL cmpI
  by_cases h1 : k1 < k2
  · simp [h1]
  · by_cases h2 : k2 < k1
    · simp [h1, h2]
    · simp [h1, h2]
      intro h; exact h.symm
theorem cmpN_lt {k1 k2 : Int} {x y : List Int} : cmpN k1 x k2 y < 0 ↔ k1 < k2 ∨ k1 = k2 ∧ cmpL x y < 0 := by
  rw [cmpN_eq]
  by_cases h1 : k1 < k2
  · rw [if_pos h1]; omega
  · by_cases h2 : k2 < k1
    · rw [if_neg h1, if_pos h2]; omega
    · rw [if_neg h1, if_neg h2]; omega
theorem cmpN_zero {k1 k2 : Int} {x y : List Int} : cmpN k1 x k2 y = 0 ↔ k1 = k2 ∧ x = y := by
  rw [cmpN_eq]
  by_cases h1 : k1 < k2
  · rw [if_pos h1]; omega
  · by_cases h2 : k2 < k1
    · rw [if_neg h1, if_pos h2]; omega
    · rw [if_neg h1, if_neg h2]
      constructor
      · intro h; exact ⟨by omega, cmpL_eq h⟩
      · rintro ⟨_, rfl⟩; exact cmpL_self _
theorem ltIt_iff {α : Type} (f : α → NItem) (x y : α) : ltOf (fun a b => cmpIt (f a) (f b)) x y = true ↔ (f x).key < (f y).key ∨ (f x).key = (f y).key ∧ cmpL (f x).vals (f y).vals < 0 := by
  unfold ltOf cmpIt
  rw [decide_eq_true_iff, cmpN_lt]
theorem swoIt {α : Type} (f : α → NItem) : Sort.SWO (ltOf fun a b => cmpIt (f a) (f b)) where
  irrefl x := by
    rw [← Bool.not_eq_true, ltIt_iff, cmpL_self]; omega
  trans x y z h1 h2 := by
    rw [ltIt_iff] at *
    rcases h1 with h1 | ⟨h1, h1'⟩ <;> rcases h2 with h2 | ⟨h2, h2'⟩
    · omega
    · omega
    · omega
    · exact .inr ⟨by omega, cmpL_trans h1' h2'⟩
  ntrans x y z h1 h2 := by
    rw [← Bool.not_eq_true, ltIt_iff] at *
    intro h3
    rcases h3 with h3 | ⟨h3, h3'⟩
    · by_cases e1 : (f x).key < (f y).key
      · exact h1 (.inl e1)
      · exact h2 (.inl (by omega))
    · by_cases e1 : (f x).key < (f y).key
      · exact h1 (.inl e1)
      · by_cases e2 : (f y).key < (f z).key
        · exact h2 (.inl e2)
        · have q1 : ¬ cmpL (f x).vals (f y).vals < 0 := fun h => h1 (.inr ⟨by omega, h⟩)
          have q2 : ¬ cmpL (f y).vals (f z).vals < 0 := fun h => h2 (.inr ⟨by omega, h⟩)
          have a1 := cmpL_anti (f x).vals (f y).vals
          have a2 := cmpL_anti (f y).vals (f z).vals
          rcases cmpL_range (f x).vals (f y).vals with r | r | r
          · omega
          · rw [cmpL_eq r] at h3'; exact q2 h3'
          · rcases cmpL_range (f y).vals (f z).vals with s | s | s
            · omega
            · rw [← cmpL_eq s] at h3'; exact q1 h3'
            · have := cmpL_trans (x := (f z).vals) (y := (f y).vals) (z := (f x).vals) (by omega) (by omega)
              have a3 := cmpL_anti (f x).vals (f z).vals
              omega
end Go.Proofs.YtobnpabndpmabaaGreat
namespace Go.Proofs
open Go.Shelf
def Tryz.sortK_ren : Go.Shelf.Ren := ⟨fun | 6 => 74 | 15 => 119 | 14 => 118 | 28 => 156 | 29 => 157 | 20 => 148 | 21 => 149 | 22 => 150 | 23 => 151 | 24 => 152 | 25 => 153 | 26 => 154 | 27 => 155 | 46 => 169 | 47 => 170 | 48 => 171 | 49 => 172 | 50 => 173 | 57 => 183 | n => n, fun | 22 => 60 | 24 => 67 | 25 => 59 | 3 => 3 | 39 => 144 | 0 => 0 | 53 => 154 | 55 => 35 | 4 => 4 | 46 => 164 | 45 => 163 | 50 => 125 | 5 => 5 | 9 => 9 | 66 => 178 | 70 => 182 | 76 => 189 | 77 => 190 | n => n, fun | n => n⟩
theorem Tryz.sortK : Go.Proofs.SlLaysF0.n6 Tryz.prog Tryz.sortK_ren := {
  mixed := by kernel_rfl
  f6 := ⟨Tryz.f74.name, by decide, Tryz.func74.trans (congrArg some (by kernel_rfl))⟩
  f14 := ⟨Tryz.f118.name, by decide, Tryz.func118.trans (congrArg some (by kernel_rfl))⟩
  f15 := Tryz.func119.trans (congrArg some (by kernel_rfl))
  f20 := ⟨Tryz.f148.name, by decide, Tryz.func148.trans (congrArg some (by kernel_rfl))⟩
  f21 := ⟨Tryz.f149.name, by decide, Tryz.func149.trans (congrArg some (by kernel_rfl))⟩
  f22 := ⟨Tryz.f150.name, by decide, Tryz.func150.trans (congrArg some (by kernel_rfl))⟩
  f23 := ⟨Tryz.f151.name, by decide, Tryz.func151.trans (congrArg some (by kernel_rfl))⟩
  f24 := ⟨Tryz.f152.name, by decide, Tryz.func152.trans (congrArg some (by kernel_rfl))⟩
  f25 := ⟨Tryz.f153.name, by decide, Tryz.func153.trans (congrArg some (by kernel_rfl))⟩
  f26 := ⟨Tryz.f154.name, by decide, Tryz.func154.trans (congrArg some (by kernel_rfl))⟩
  f27 := ⟨Tryz.f155.name, by decide, Tryz.func155.trans (congrArg some (by kernel_rfl))⟩
  f28 := Tryz.func156.trans (congrArg some (by kernel_rfl))
  f29 := Tryz.func157.trans (congrArg some (by kernel_rfl))
  f46 := ⟨Tryz.f169.name, by decide, Tryz.func169.trans (congrArg some (by kernel_rfl))⟩
  f47 := Tryz.func170.trans (congrArg some (by kernel_rfl))
  f48 := Tryz.func171.trans (congrArg some (by kernel_rfl))
  f49 := ⟨Tryz.f172.name, by decide, Tryz.func172.trans (congrArg some (by kernel_rfl))⟩
  f50 := ⟨Tryz.f173.name, by decide, Tryz.func173.trans (congrArg some (by kernel_rfl))⟩
  f57 := ⟨Tryz.f183.name, by decide, Tryz.func183.trans (congrArg some (by kernel_rfl))⟩
  t0 := Tryz.underlying0
  a0 := Tryz.isAgg0
  z0 := Tryz.sizeOf0
  v0 := Tryz.zeroValue0
  t3 := Tryz.underlying3
  a3 := Tryz.isAgg3
  z3 := Tryz.sizeOf3
  v3 := Tryz.zeroValue3
  t4 := Tryz.underlying4
  a4 := Tryz.isAgg4
  z4 := Tryz.sizeOf4
  v4 := Tryz.zeroValue4
  t5 := Tryz.underlying5
  a5 := Tryz.isAgg5
  z5 := Tryz.sizeOf5
  v5 := Tryz.zeroValue5
  t9 := Tryz.underlying9
  a9 := Tryz.isAgg9
  z9 := Tryz.sizeOf9
  v9 := Tryz.zeroValue9
  t22 := Tryz.underlying60
  a22 := Tryz.isAgg60
  z22 := Tryz.sizeOf60
  v22 := Tryz.zeroValue60
  t25 := Tryz.underlying59
  a25 := Tryz.isAgg59
  z25 := Tryz.sizeOf59
  v25 := Tryz.zeroValue59
  t39 := Tryz.underlying144
  a39 := Tryz.isAgg144
  z39 := Tryz.sizeOf144
  v39 := Tryz.zeroValue144
  t45 := Tryz.underlying163
  a45 := Tryz.isAgg163
  z45 := Tryz.sizeOf163
  v45 := Tryz.zeroValue163
  t46 := Tryz.underlying164
  a46 := Tryz.isAgg164
  z46 := Tryz.sizeOf164
  v46 := Tryz.zeroValue164
  t50 := Tryz.underlying125
  a50 := Tryz.isAgg125
  z50 := Tryz.sizeOf125
  v50 := Tryz.zeroValue125
  t53 := Tryz.underlying154
  a53 := Tryz.isAgg154
  z53 := Tryz.sizeOf154
  v53 := Tryz.zeroValue154
  t55 := Tryz.underlying35
  a55 := Tryz.isAgg35
  z55 := Tryz.sizeOf35
  v55 := Tryz.zeroValue35
  t66 := Tryz.underlying178
  a66 := Tryz.isAgg178
  z66 := Tryz.sizeOf178
  v66 := Tryz.zeroValue178
  t70 := Tryz.underlying182
  a70 := Tryz.isAgg182
  z70 := Tryz.sizeOf182
  v70 := Tryz.zeroValue182
  t76 := Tryz.underlying189
  a76 := Tryz.isAgg189
  z76 := Tryz.sizeOf189
  v76 := Tryz.zeroValue189
  t77 := Tryz.underlying190
  a77 := Tryz.isAgg190
  z77 := Tryz.sizeOf190
  v77 := Tryz.zeroValue190 }
end Go.Proofs
