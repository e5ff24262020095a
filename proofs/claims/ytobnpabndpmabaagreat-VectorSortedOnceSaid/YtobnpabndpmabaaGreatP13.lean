/-
  Part 14 of a proof (walks and plain facts).
-/
import Derived.Test.YtobnpabndpmabaaGreatP12
import Derived.Lib.SliceRun
set_option linter.all false
namespace Go.Proofs.YtobnpabndpmabaaGreat
def chF (f : Nat → Nat → Int) : Ch → Nat → Nat → Int
  | .add i j => addF f i j (cF f i j)
  | .swp m => swF f m
def chT (f : Nat → Nat → Int) : Ch → Nat → Nat → Int
  | .add i j => adT i j (cF f i j)
  | .swp m => swT m
inductive Rch (n : Nat) : (Nat → Nat → Int) → (Nat → Nat → Int) → (Nat → Nat → Int) → (Nat → Nat → Int) → Prop
  | done (f t : Nat → Nat → Int) (h : scanF f n = none) : Rch n f t f t
  | step (f t h T : Nat → Nat → Int) (c : Ch) (hc : scanF f n = some c) (hr : Rch n (chF f c) (mulF n t (chT f c)) h T) : Rch n f t h T
structure RedI (n : Nat) (f0 f t : Nat → Nat → Int) (s adds : Nat) : Prop where
  dfn : Def f n bB
  jn : Jn f n bB
  det : dk f n = dk f0 n
  pot : 4 ^ s * prD f n ≤ 3 ^ s * bB ^ 8
  cnt : adds ≤ 28 * s + rankF f n
  szt : ∀ a b, a < n → b < n → Sz (t a b) (1 + 45 * adds)
theorem lM_small : ∀ n, n < 9 → lM n bB + 1 < 4294967296 ^ 41 := by decide +kernel
theorem eN_small : ∀ n, n < 9 → eN n bB < 4294967296 ^ 100 := by decide +kernel
theorem tri2_8 {n : Nat} (h : n ≤ 8) : tri2 n ≤ 28 := Nat.le_trans (tri2_mono h) (by decide)
theorem pot_gen (K : Nat) (hK : ¬ 4 ^ K ≤ 3 ^ K * bB ^ 8) (s : Nat) (hs : K ≤ s) (h1 : 4 ^ s ≤ 3 ^ s * bB ^ 8) : False := by
  obtain ⟨r, rfl⟩ : ∃ r, s = K + r := ⟨s - K, by omega⟩
  rw [Nat.pow_add, Nat.pow_add] at h1
  have h2 : 3 ^ K * 3 ^ r * bB ^ 8 ≤ 3 ^ K * bB ^ 8 * 4 ^ r := by
    rw [Nat.mul_assoc, Nat.mul_comm (3 ^ r), ← Nat.mul_assoc]
    exact Nat.mul_le_mul_left _ (Nat.pow_le_pow_left (by omega) r)
  exact hK (Nat.le_of_mul_le_mul_right (Nat.le_trans h1 h2) (Nat.pow_pos (by omega)))
theorem pot_num : ¬ 4 ^ 970 ≤ 3 ^ 970 * bB ^ 8 := by decide +kernel
section
variable {n : Nat} {f0 f t : Nat → Nat → Int} {s adds : Nat}
theorem RedI.s_le (h : RedI n f0 f t s adds) : s < 970 := by
  rcases Nat.lt_or_ge s 970 with hs | hs
  · exact hs
  · exfalso
    have p1 := prD_pos h.dfn n (Nat.le_refl _)
    have h1 : 4 ^ s ≤ 3 ^ s * bB ^ 8 := Nat.le_trans (Nat.le_mul_of_pos_right _ p1) h.pot
    exact pot_gen 970 pot_num s hs h1
theorem RedI.adds_le (h : RedI n f0 f t s adds) (hn : n ≤ 8) : adds ≤ 27160 := by
  have h1 := h.s_le
  have h2 := h.cnt
  have h3 := rankF_le f n
  have h4 := tri2_8 hn
  omega
theorem RedI.szf (h : RedI n f0 f t s adds) (hn : n ≤ 8) {a b : Nat} (ha : a < n) (hb : b < n) : Sz (f a b) 100 := by
  have h1 := h.jn.ent h.dfn (by decide) ha hb
  exact Nat.lt_of_le_of_lt h1 (eN_small n (by omega))
theorem RedI.szc (h : RedI n f0 f t s adds) (hn : n ≤ 8) {i j : Nat} (hi : i < n) (hj : j < i) : Sz (cF f i j) 41 := by
  rw [cF_bk h.dfn (by omega)]
  have h1 := qF_abs (l := bk f j i j) (h.dfn.pos j (by omega))
  have h2 := h.jn.lam h.dfn (by decide) i j hi hj
  have h3 := lM_small n (by omega)
  unfold Sz
  rw [Int.natAbs_neg]
  generalize 4294967296 ^ 41 = p at *
  omega
theorem scan_rank {c : Ch} (h : scanF f n = some c) : rankF f n = rankC c := by unfold rankF; rw [h]
theorem RedI.add (h : RedI n f0 f t s adds) (hn : n ≤ 8) {i j : Nat} (hc : scanF f n = some (.add i j)) : RedI n f0 (addF f i j (cF f i j)) (mulF n t (adT i j (cF f i j))) s (adds + 1) ∧ rankF f n < rankF (addF f i j (cF f i j)) n := by
  obtain ⟨hF, hi⟩ := scanF_some hc
  have hi : i < n := hi
  obtain ⟨hji, hns, hs, hr⟩ := id hF
  have hrk : rankF f n < rankF (addF f i j (cF f i j)) n := by
    rw [scan_rank hc]
    exact rank_gt hji hi (fun i' hi' => rowOk_add h.dfn _ hji hi hi' (hr i' hi')) (fun j' h1 h2 => siz_add h.dfn hji hi h1 h2 (fun h3 => hs j' h3 h2))
  obtain ⟨g1, _⟩ := add_stages h.dfn.sym h.dfn.ne (cF f i j) hji hi
  have hcn := h.cnt
  refine ⟨⟨h.dfn.add _ hji hi, Jn_add h.dfn (by decide) h.jn hF hi, by rw [g1 n (Nat.le_refl _)]; exact h.det, by rw [prD_congr n (fun t ht => g1 (t + 1) (by omega))]; exact h.pot, by omega, fun a b ha hb => ?_⟩, hrk⟩
  rw [mul_ad (by omega) (by omega) t a b hb]
  have z1 := h.szt a b ha hb
  split
  · have z2 := (h.szc hn hi hji).mul (h.szt a j ha (by omega))
    exact (Sz.add (z1.mono (l := 41 + (1 + 45 * adds)) (by omega)) z2).mono (by omega)
  · rw [Int.add_zero]; exact z1.mono (by omega)
theorem RedI.swap (h : RedI n f0 f t s adds) (hn : n ≤ 8) {m : Nat} (hc : scanF f n = some (.swp m)) : RedI n f0 (swF f m) (mulF n t (swT m)) (s + 1) adds := by
  obtain ⟨hF, hm⟩ := scanF_some hc
  have hm : m + 1 < n := hm
  obtain ⟨hnl, _, _⟩ := id hF
  obtain ⟨g1, _⟩ := swap_stages h.dfn.sym h.dfn.pos hm
  have hcn := h.cnt
  have h3 := rankF_le f n
  have h4 := tri2_8 hn
  refine ⟨h.dfn.swap hm hnl, Jn_swap h.dfn h.jn hF hm, by rw [g1 n (Nat.le_refl _) (by omega)]; exact h.det, ?_, by omega, fun a b ha hb => ?_⟩
  · have p := prD_swap h.dfn hm hnl n (by omega) (Nat.le_refl _)
    have q := Nat.mul_le_mul_left (4 ^ s) p
    have e1 : 4 ^ (s + 1) * prD (swF f m) n = 4 ^ s * (4 * prD (swF f m) n) := by rw [Nat.pow_succ, Nat.mul_assoc]
    have e2 : 4 ^ s * (3 * prD f n) = 3 * (4 ^ s * prD f n) := Nat.mul_left_comm _ _ _
    have e3 : 3 ^ (s + 1) * bB ^ 8 = 3 * (3 ^ s * bB ^ 8) := by rw [Nat.pow_succ, Nat.mul_comm (3 ^ s) 3, Nat.mul_assoc]
    rw [e1, e3]
    rw [e2] at q
    exact Nat.le_trans q (Nat.mul_le_mul_left 3 h.pot)
  · rw [mul_sw hm t a b hb]; exact h.szt a _ ha (sgm_lt hm hb)
def muR (n : Nat) (f : Nat → Nat → Int) (s : Nat) : Nat := (970 - s) * 30 + (29 - rankF f n)
theorem RedI.mu_add (h : RedI n f0 f t s adds) (hn : n ≤ 8) {i j : Nat} (hc : scanF f n = some (.add i j)) : muR n (addF f i j (cF f i j)) s < muR n f s := by
  have h1 := (h.add hn hc).2
  have h2 := rankF_le (addF f i j (cF f i j)) n
  have h3 := tri2_8 hn
  unfold muR
  omega
theorem RedI.mu_swap (h : RedI n f0 f t s adds) (hn : n ≤ 8) {m : Nat} (hc : scanF f n = some (.swp m)) : muR n (swF f m) (s + 1) < muR n f s := by
  have h1 := (h.swap hn hc).s_le
  have h2 := rankF_le f n
  have h3 := tri2_8 hn
  unfold muR
  omega
theorem rch_exists (hn : n ≤ 8) : ∀ k f t s adds, muR n f s ≤ k → RedI n f0 f t s adds → ∃ h T, Rch n f t h T
  | 0, f, t, s, adds, hk, h => by
    cases hc : scanF f n with
    | none => exact ⟨f, t, .done f t hc⟩
    | some c =>
      cases c with
      | add i j => have := h.mu_add hn hc; omega
      | swp m => have := h.mu_swap hn hc; omega
  | k + 1, f, t, s, adds, hk, h => by
    cases hc : scanF f n with
    | none => exact ⟨f, t, .done f t hc⟩
    | some c =>
      cases c with
      | add i j =>
        have := h.mu_add hn hc
        obtain ⟨g, T, hr⟩ := rch_exists hn k _ _ _ _ (by omega) (h.add hn hc).1
        exact ⟨g, T, .step f t g T _ hc hr⟩
      | swp m =>
        have := h.mu_swap hn hc
        obtain ⟨g, T, hr⟩ := rch_exists hn k _ _ _ _ (by omega) (h.swap hn hc)
        exact ⟨g, T, .step f t g T _ hc hr⟩
theorem RedI.red (h : RedI n f0 f t s adds) (hn1 : 1 ≤ n) (hd : dk f0 n ≤ 10000) (hc : scanF f n = none) : RedR f n := by
  refine (ref_iff hn1).1 ⟨h.dfn.sym, fun k hk => ?_, ?_, scanF_none hc⟩
  · rw [dk_posF h.dfn.pos k hk]; exact h.dfn.pos k hk
  · have := dk_posF h.dfn.pos (n - 1) (by omega)
    rw [show n - 1 + 1 = n by omega] at this
    rw [this, h.det]; exact hd
theorem RedI.start (hn1 : 1 ≤ n) (hn : n ≤ 8) (hs : SymF f n) (hp : PosF f n) (hb : ∀ a b, (f a b).natAbs ≤ 9) (ht : ∀ a b, a < n → b < n → Sz (t a b) 1) : RedI n f f t 0 0 := by
  have hpos : ∀ k, k < n → 0 < dk f (k + 1) := fun k hk => (pos_dk hp k hk).1
  have hdef : Def f n bB := ⟨hs, hpos, fun k hk => dk_bd hb (by omega)⟩
  refine ⟨hdef, .inl fun a ha => Nat.le_trans (hb a a) ?_, rfl, ?_, by omega, fun a b ha hb => (ht a b ha hb).mono (by omega)⟩
  · unfold cN
    exact Nat.le_trans (show 9 ≤ bB + bB * bB by decide) (Nat.le_mul_of_pos_right _ (Nat.pow_pos (by omega)))
  · simp only [Nat.pow_zero, Nat.one_mul]
    exact Nat.le_trans (prD_le hdef n (Nat.le_refl _)) (Nat.pow_le_pow_right (by decide) hn)
end
end Go.Proofs.YtobnpabndpmabaaGreat
namespace Go.Proofs.YtobnpabndpmabaaGreat
open Go.RowKit
theorem ext_keep {w w' : World} (h : Ext w w') : Keep (fun _ => False) w w' := ⟨h.os, h.tape, h.output, h.size, fun k hk _ => h.block k hk⟩
theorem keep_ext {w w' : World} (h : Keep (fun _ => False) w w') : Ext w w' := ⟨h.os, h.tape, h.output, h.size, fun k hk => h.block k hk (fun h => h)⟩
theorem inv_nil {w w' : World} {X : Nat → Prop} (h : Ext w w') (hX : ∀ b, X b → b < w.heap.size) : Inv w (fun _ => False) X (famH 0 []) (fun _ _ => none) w' := by
  have e : ∀ a, famH 0 [] a = [] := fun a => by unfold famH; split <;> rfl
  refine ⟨ext_keep h, fun a r o ho => ?_, fun a r a' r' o o' b c c' ho => ?_, fun a r o b c ho => ?_, fun b hb => Nat.lt_of_lt_of_le (hX b hb) h.size, fun a r o ho => ?_⟩ <;> (rw [e] at ho; simp at ho)
theorem callC_ext {P : Program} {f : FuncId} {args : List TV} {r : TV} (hc : callable P f = true) (h : ∀ (X : Nat → Prop) (w : World) (vs : Array Value), (∀ b, X b → b < w.heap.size) → vs.size = args.length →
    (∀ (j : Nat) t, args[j]? = some t → ∃ v : Value, vs[j]? = some v ∧ t.rel (fun _ _ => none) (fun _ => []) X w v) → Calls P f vs w fun e w' => ∃ v, e = .returned v ∧ (∀ ρ H Y, r.rel ρ H Y w' v) ∧ Ext w w') : CallC P f args ⟨[], r⟩ :=
  ⟨hc, fun X w vs hX hvs ha => (h X w vs hX hvs ha).mono fun e w' ⟨v, h1, h2, h3⟩ => ⟨v, h1, fun _ _ => none, inv_nil h3 hX, h2 _ _ _⟩⟩
theorem CallC.calls {P : Program} {f : FuncId} {args : List TV} {r : TV} (h : CallC P f args ⟨[], r⟩) {w : World} {vs : Array Value} (hvs : vs.size = args.length)
    (ha : ∀ (j : Nat) t, args[j]? = some t → ∃ v : Value, vs[j]? = some v ∧ t.rel (fun _ _ => none) (fun _ => []) (fun _ => False) w v) : Calls P f vs w fun e w' => ∃ v, e = .returned v ∧ (∃ ρ H X, r.rel ρ H X w' v) ∧ Ext w w' :=
  (h.2 (fun _ => False) w vs (fun b h => h.elim) hvs ha).mono fun e w' ⟨v, h1, ρ, h2, h3⟩ => ⟨v, h1, ⟨_, _, _, h3⟩, keep_ext h2.keep⟩
theorem rel_i64 {ρ : Rho} {H : OH} {X : Nat → Prop} {w : World} (v : Int) (b : Bool) : (tvI v b).rel ρ H X w (.tuple #[.int .i64 v, .bool b]) := by
  refine ⟨#[.int .i64 v, .bool b], rfl, rfl, fun j c cs hj => ?_⟩
  match j, hj with
  | 0, hj =>
    simp at hj
    obtain ⟨rfl, rfl⟩ := hj
    exact ⟨_, rfl, .inr ⟨rfl, _, rfl, Rep.raw _ rfl⟩⟩
  | 1, hj =>
    simp at hj
    obtain ⟨rfl, rfl⟩ := hj
    exact ⟨_, rfl, .inr ⟨rfl, _, rfl, Rep.raw _ rfl⟩⟩
  | j + 2, hj => simp at hj
theorem rel_bool {ρ : Rho} {H : OH} {X : Nat → Prop} {w : World} (b : Bool) : (TV.raw (.bool b)).rel ρ H X w (.bool b) := Rep.raw _ rfl
theorem rep_raw {X : Nat → Prop} {w : World} {u v : Value} (h : Rep X w (.raw u) v) : v = u := by cases h; rfl
theorem rep_rdI {X : Nat → Prop} {w : World} {l : List Int} {v : Value} (h : Rep X w (.sl (ls fI l)) v) : ∃ A c, v = .slice A l.length c ∧ l.length ≤ c ∧ l.length ≤ 9223372036854775807 ∧ RdI .i64 w A l := by
  generalize hx : PV.sl (ls fI l) = x at h
  cases h with
  | raw v h => cases hx
  | ptr b off cs f hX hb hc hr => cases hx
  | nil a c =>
    injection hx with hx
    have hl : l = [] := by simpa [ls] using hx
    subst hl
    exact ⟨a, c, rfl, Nat.zero_le _, by simp, RdI.nil _ _ _⟩
  | sl b off es cap xs f hX hb hes hcap hm hc hr =>
    injection hx with hx
    subst hx
    rw [ls_len] at hcap hm
    refine ⟨some ⟨b, off, none⟩, cap, by rw [ls_len], hcap, hm, fun hne => ⟨b, off, rfl, fun i x hx => ?_⟩⟩
    rw [List.getElem?_map] at hx
    obtain ⟨z, hz, rfl⟩ := Option.map_eq_some_iff.1 hx
    have h1 : (ls fI l)[i]? = some (fI z) := by rw [ls_get, hz]; rfl
    have he : es = 1 := by rw [← hes _ (List.mem_of_getElem? h1)]; rfl
    subst he
    have h2 := hc i _ 0 _ h1 rfl
    have h3 := rep_raw (hr i _ 0 _ h1 rfl)
    rw [h3, Nat.mul_one, Nat.add_zero] at h2
    exact h2
theorem rep_rdM {X : Nat → Prop} {w : World} {M : List (List Int)} {v : Value} (h : Rep X w (.sl (ls (fR fI) M)) v) : ∃ A c, v = .slice A M.length c ∧ M.length ≤ c ∧ M.length ≤ 9223372036854775807 ∧ RdM .i64 w A M := by
  generalize hx : PV.sl (ls (fR fI) M) = x at h
  cases h with
  | raw v h => cases hx
  | ptr b off cs f hX hb hc hr => cases hx
  | nil a c =>
    injection hx with hx
    have hl : M = [] := by simpa [ls] using hx
    subst hl
    exact ⟨a, c, rfl, Nat.zero_le _, by simp, RdM.nil _ _ _⟩
  | sl b off es cap xs f hX hb hes hcap hm hc hr =>
    injection hx with hx
    subst hx
    rw [ls_len] at hcap hm
    refine ⟨some ⟨b, off, none⟩, cap, by rw [ls_len], hcap, hm, fun hne => ⟨b, off, rfl, fun i r hi => ?_⟩⟩
    have h1 : (ls (fR fI) M)[i]? = some (fR fI r) := by rw [ls_get, hi]; rfl
    have he : es = 1 := by rw [← hes _ (List.mem_of_getElem? h1)]; rfl
    subst he
    have h2 := hc i _ 0 _ h1 rfl
    have h3 := rep_rdI (hr i _ 0 _ h1 rfl)
    rw [Nat.mul_one, Nat.add_zero] at h2
    exact ⟨_, h2, h3⟩
theorem rdI_rep {w : World} {l : List Int} {A : Option Addr} {c : Nat} (hl : l.length ≤ c) (hm : l.length ≤ 9223372036854775807) (h : RdI .i64 w A l) : Rep (fun _ => False) w (.sl (ls fI l)) (.slice A l.length c) := by
  cases l with
  | nil => exact Rep.nil _ _
  | cons z0 l0 =>
    obtain ⟨b, off, rfl, hc⟩ := h (by simp)
    have h0 := hc 0 (.int .i64 z0) (by simp)
    have hb : b < w.heap.size := cell_lt h0
    have := Rep.sl (X := fun _ => False) (w := w) b off 1 c (ls fI (z0 :: l0)) (fun i _ => .int .i64 ((z0 :: l0).getD i 0)) (fun h => h) hb (fun e he => by
      obtain ⟨z, _, rfl⟩ := List.mem_map.1 he
      rfl) (by rw [ls_len]; exact hl) (by rw [ls_len]; exact hm) (fun i e j x he hx => by
      rw [ls_get] at he
      obtain ⟨z, hz, rfl⟩ := Option.map_eq_some_iff.1 he
      cases j with
      | succ j => simp [fI] at hx
      | zero =>
        have := hc i (.int .i64 z) (by rw [List.getElem?_map, hz]; rfl)
        simp only [Nat.mul_one, Nat.add_zero, List.getD_eq_getElem?_getD, hz, Option.getD_some]
        exact this) (fun i e j x he hx => by
      rw [ls_get] at he
      obtain ⟨z, hz, rfl⟩ := Option.map_eq_some_iff.1 he
      cases j with
      | succ j => simp [fI] at hx
      | zero =>
        simp [fI] at hx
        subst hx
        simp only [List.getD_eq_getElem?_getD, hz, Option.getD_some]
        exact Rep.raw _ rfl)
    rw [ls_len] at this
    exact this
theorem rdM_rep {w : World} {M : List (List Int)} {A : Option Addr} {c : Nat} (hl : M.length ≤ c) (hm : M.length ≤ 9223372036854775807) (h : RdM .i64 w A M) : Rep (fun _ => False) w (.sl (ls (fR fI) M)) (.slice A M.length c) := by
  cases M with
  | nil => exact Rep.nil _ _
  | cons r0 M0 =>
    obtain ⟨b, off, rfl, hc⟩ := h (by simp)
    obtain ⟨v0, h0, _⟩ := hc 0 r0 rfl
    have hb : b < w.heap.size := cell_lt h0
    have := Rep.sl (X := fun _ => False) (w := w) b off 1 c (ls (fR fI) (r0 :: M0)) (fun i _ => (w.cell? ⟨b, off + i, none⟩).getD undef) (fun h => h) hb (fun e he => by
      obtain ⟨z, _, rfl⟩ := List.mem_map.1 he
      rfl) (by rw [ls_len]; exact hl) (by rw [ls_len]; exact hm) (fun i e j x he hx => by
      rw [ls_get] at he
      obtain ⟨r, hr, rfl⟩ := Option.map_eq_some_iff.1 he
      cases j with
      | succ j => simp [fR] at hx
      | zero =>
        obtain ⟨v, h1, h2⟩ := hc i r hr
        simp only [Nat.mul_one, Nat.add_zero, h1, Option.getD_some]) (fun i e j x he hx => by
      rw [ls_get] at he
      obtain ⟨r, hr, rfl⟩ := Option.map_eq_some_iff.1 he
      cases j with
      | succ j => simp [fR] at hx
      | zero =>
        simp [fR] at hx
        subst hx
        obtain ⟨v, h1, B, c', rfl, h3, h4, h5⟩ := hc i r hr
        simp only [h1, Option.getD_some]
        exact rdI_rep h3 h4 h5)
    rw [ls_len] at this
    exact this
/-! The program's functions. -/
theorem arg0 {args : List TV} {vs : Array Value} {X : Nat → Prop} {w : World} (h : ∀ (j : Nat) t, args[j]? = some t → ∃ v : Value, vs[j]? = some v ∧ t.rel (fun _ _ => none) (fun _ => []) X w v) {j : Nat} {x : PV} (hj : args[j]? = some (.one (.p x))) : ∃ v : Value, vs[j]? = some v ∧ Rep X w x v := h j _ hj
end Go.Proofs.YtobnpabndpmabaaGreat
namespace Go.Proofs.YtobnpabndpmabaaGreat
open Go.RowKit
theorem Rep.later {Y Y' : Nat → Prop} {w w' : World} (hY : ∀ b, b < w.heap.size → Y' b → Y b) (hs : w.heap.size ≤ w'.heap.size) (hc : ∀ p v, p.block < w.heap.size → ¬ Y p.block → w.cell? p = some v → w'.cell? p = some v) {x : PV} {v : Value} (h : Rep Y w x v) : Rep Y' w' x v := by
  induction h with
  | raw v h => exact .raw v h
  | nil a c => exact .nil a c
  | sl b off es cap xs f hX hb hes hcap hm hcc hr ih => exact .sl b off es cap xs f (fun h => hX (hY _ hb h)) (Nat.lt_of_lt_of_le hb hs) hes hcap hm (fun i e j x h1 h2 => hc ⟨b, _, none⟩ _ hb hX (hcc i e j x h1 h2)) ih
  | ptr b off cs f hX hb hcc hr ih => exact .ptr b off cs f (fun h => hX (hY _ hb h)) (Nat.lt_of_lt_of_le hb hs) (fun j x h1 => hc ⟨b, _, none⟩ _ hb hX (hcc j x h1)) ih
theorem cell_heap {w w' : World} {p : Addr} (h : w'.heap[p.block]? = w.heap[p.block]?) : w'.cell? p = w.cell? p := by unfold World.cell?; rw [h]
def BoxIs (b : Nat) (ty : TypeId) (cs : List PV) (Y : Nat → Prop) (w : World) : Prop :=
  ∃ (cells : Array Value) (c : Nat), w.heap[b]? = some (.cells cells ty (0, 0)) ∧ cells.size = c * cs.length ∧ 1 ≤ c ∧ c ≤ 9223372036854775807 ∧ 0 < cs.length ∧
    ∀ (j : Nat) x, cs[j]? = some x → ∃ v : Value, cells[j]? = some v ∧ v.oneCell' = true ∧ Rep Y w x v
theorem BoxIs.later {b : Nat} {ty : TypeId} {cs : List PV} {Y Y' : Nat → Prop} {w w' : World} (hY : ∀ j, j < w.heap.size → Y' j → Y j) (hs : w.heap.size ≤ w'.heap.size) (hb : w'.heap[b]? = w.heap[b]?) (hc : ∀ j, j < w.heap.size → ¬ Y j → w'.heap[j]? = w.heap[j]?)
    (h : BoxIs b ty cs Y w) : BoxIs b ty cs Y' w' := by
  obtain ⟨cells, c, h1, h2, h3, h4, h5, h6⟩ := h
  refine ⟨cells, c, by rw [hb]; exact h1, h2, h3, h4, h5, fun j x hx => ?_⟩
  obtain ⟨v, v1, v2, v3⟩ := h6 j x hx
  exact ⟨v, v1, v2, v3.later hY hs fun p u hp hn hu => by rw [cell_heap (hc p.block hp hn)]; exact hu⟩
theorem BoxIs.weaken {b : Nat} {ty : TypeId} {cs : List PV} {Y Y' : Nat → Prop} {w : World} (hY : ∀ j, j < w.heap.size → Y' j → Y j) (h : BoxIs b ty cs Y w) : BoxIs b ty cs Y' w :=
  h.later hY (Nat.le_refl _) rfl fun _ _ _ => rfl
section
variable {P : Program} {b : Nat} {ty : TypeId} {cs cs' : List PV} {w0 w : World} {O X : Nat → Prop} {s s' : AS} {a : Act}
def RelT (b : Nat) (ty : TypeId) (w0 : World) (O X : Nat → Prop) (s : AS) (cs : List PV) (a : Act) (w : World) : Prop :=
  a.defers = [] ∧ a.tmps.size = s.tmps.length ∧ ∃ ρ, Inv w0 O X s.H ρ w ∧ TmRel X ρ s a w ∧ O b ∧ X b ∧ BoxIs b ty cs (Xo X ρ s.H) w
theorem RelT.rel (h : RelT b ty w0 O X s cs a w) : Rel w0 O X s a w := by
  obtain ⟨h1, h2, ρ, h3, h4, _⟩ := h
  exact ⟨h1, h2, ρ, h3, h4⟩
theorem RelT.rebase (h : RelT b ty w0 O X s cs a w) : ∃ Own : Nat → Prop, Rel w Own X s a w ∧ ∀ s1 a1 w1, Rel w Own X s1 a1 w1 → RelT b ty w0 O X s1 cs a1 w1 := by
  obtain ⟨h1, hsz, ρ, hinv, htm, hO, hX, hbox⟩ := h
  refine ⟨fun j => ∃ (x r : Nat) (o : OObj) (c : Nat), (s.H x)[r]? = some o ∧ ρ x r = some (j, c), ⟨h1, hsz, ρ, ⟨Keep.refl w, hinv.objs, hinv.inj, fun x r o j c ho hj => ⟨.inr ⟨x, r, o, c, ho, hj⟩, (hinv.old x r o j c ho hj).2⟩, hinv.bar, hinv.self⟩, htm⟩, ?_⟩
  rintro s1 a1 w1 ⟨k1, ksz, ρ1, kinv, ktm⟩
  have hown : ∀ j, (∃ (x r : Nat) (o : OObj) (c : Nat), (s.H x)[r]? = some o ∧ ρ x r = some (j, c)) → (w0.heap.size ≤ j ∨ O j) ∧ ¬ X j := fun j ⟨x, r, o, c, g1, g2⟩ => hinv.old x r o j c g1 g2
  refine ⟨k1, ksz, ρ1, ⟨⟨kinv.keep.os.trans hinv.keep.os, kinv.keep.tape.trans hinv.keep.tape, kinv.keep.output.trans hinv.keep.output, Nat.le_trans hinv.keep.size kinv.keep.size, fun j hj hn => ?_⟩, kinv.objs, kinv.inj, fun x r o j c ho hj => ?_, kinv.bar, kinv.self⟩, ktm, hO, hX, ?_⟩
  · rw [kinv.keep.block j (Nat.lt_of_lt_of_le hj hinv.keep.size) (fun hh => by
      rcases (hown j hh).1 with h | h
      · omega
      · exact hn h)]
    exact hinv.keep.block j hj hn
  · obtain ⟨g1, g2⟩ := kinv.old x r o j c ho hj
    refine ⟨?_, g2⟩
    rcases g1 with g | g
    · exact .inl (Nat.le_trans hinv.keep.size g)
    · exact (hown j g).1
  · refine hbox.later (fun j hj hh => ?_) kinv.keep.size (kinv.keep.block b (hinv.bar b hX) (fun hh => (hown b hh).2 hX)) (fun j hj hn => kinv.keep.block j hj (fun hh => hn (.inr hh)))
    rcases hh with hh | ⟨x, r, o, c, g1, g2⟩
    · exact .inl hh
    · rcases (kinv.old x r o j c g1 g2).1 with g | g
      · omega
      · exact .inr g
def WpT (P : Program) (b : Nat) (ty : TypeId) (c : Code) (Q : Exit → AS → List PV → Prop) (s : AS) (cs : List PV) : Prop :=
  ∀ (w0 : World) (O X : Nat → Prop) (a : Act) (w : World), RelT b ty w0 O X s cs a w → c.wp P (fun e a' w' => ∃ s' cs', Q e s' cs' ∧ RelT b ty w0 O X s' cs' a' w') a w
def thenT (next : AS → List PV → Prop) (Q : Exit → AS → List PV → Prop) : Exit → AS → List PV → Prop
  | .normal, s, k => next s k
  | e, s, k => Q e s k
def blockT (id : Nat) (Q : Exit → AS → List PV → Prop) : Exit → AS → List PV → Prop
  | .exit id', s, k => if id' = id then Q .normal s k else Q (.exit id') s k
  | e, s, k => Q e s k
variable {Q : Exit → AS → List PV → Prop}
theorem WpT_of {c : Code} (h : WpA P c (fun e s' => Q e s' cs) s) : WpT P b ty c Q s cs := fun w0 O X a w r => by
  obtain ⟨Own, h1, h2⟩ := r.rebase
  exact wp_mono (h _ _ _ _ _ h1) fun e a' w' ⟨s', g1, g2⟩ => ⟨s', cs, g1, h2 _ _ _ g2⟩
theorem WpT.weak {c : Code} (h : Weak s s') (k : WpT P b ty c Q s' cs) : WpT P b ty c Q s cs := fun _ _ _ _ _ r => by
  obtain ⟨Own, h1, h2⟩ := r.rebase
  exact k _ _ _ _ _ (h2 _ _ _ (h _ _ _ _ _ h1))
theorem RelT.weak (h : Weak s s') (r : RelT b ty w0 O X s cs a w) : RelT b ty w0 O X s' cs a w := by
  obtain ⟨Own, h1, h2⟩ := r.rebase
  exact h2 _ _ _ (h _ _ _ _ _ h1)
theorem WpT.mono {c : Code} {Q' : Exit → AS → List PV → Prop} (h : WpT P b ty c Q s cs) (k : ∀ e s' cs', Q e s' cs' → Q' e s' cs') : WpT P b ty c Q' s cs := fun _ _ _ _ _ r =>
  wp_mono (h _ _ _ _ _ r) fun _ _ _ ⟨s', cs', h1, h2⟩ => ⟨s', cs', k _ _ _ h1, h2⟩
theorem WpT_skip (h : Q .normal s cs) : WpT P b ty .skip Q s cs := fun _ _ _ _ _ r => wp_skip ⟨s, cs, h, r⟩
theorem WpT_exit {id : Nat} (h : Q (.exit id) s cs) : WpT P b ty (.exit id) Q s cs := fun _ _ _ _ _ r => wp_exit ⟨s, cs, h, r⟩
theorem WpT_ret (h : Q .ret s cs) : WpT P b ty .ret Q s cs := fun _ _ _ _ _ r => wp_ret ⟨s, cs, h, r⟩
theorem WpT_seq {x y : Code} (h : WpT P b ty x (thenT (WpT P b ty y Q) Q) s cs) : WpT P b ty (.seq x y) Q s cs := fun _ _ _ _ _ r =>
  wp_seq (wp_mono (h _ _ _ _ _ r) fun e a w ⟨s', cs', h1, h2⟩ => by
    cases e with
    | normal => exact h1 _ _ _ _ _ h2
    | _ => exact ⟨s', cs', h1, h2⟩)
theorem WpT_block {id : Nat} {x : Code} (h : WpT P b ty x (blockT id Q) s cs) : WpT P b ty (.block id x) Q s cs := fun _ _ _ _ _ r =>
  wp_block (wp_mono (h _ _ _ _ _ r) fun e a w ⟨s', cs', h1, h2⟩ => by
    cases e with
    | exit id' =>
      simp only [blockT] at h1
      simp only [Exit.inBlock]
      split at h1
      · rename_i hid; rw [if_pos hid]; exact ⟨s', cs', h1, h2⟩
      · rename_i hid; rw [if_neg hid]; exact ⟨s', cs', h1, h2⟩
    | _ => exact ⟨s', cs', h1, h2⟩)
theorem WpT_cond {c : Operand} {x y : Code} {v : Bool} (hc : s.ev c = some (.raw (.bool v))) (ht : v = true → WpT P b ty x Q s cs) (hf : v = false → WpT P b ty y Q s cs) : WpT P b ty (.cond c x y) Q s cs := fun _ _ _ _ _ r => by
  obtain ⟨h1, hsz, ρ, hinv, htm, _⟩ := id r
  have hb := (rel_raw (ev_rel htm c _ hc)).1
  exact wp_cond_split hb (fun h => ht h _ _ _ _ _ r) (fun h => hf h _ _ _ _ _ r)
theorem WpT_loop {G : Type} (St : G → AS) (Sc : G → List PV) (μ : G → Nat) (g0 : G) {c : Code} (h0 : Weak s (St g0)) (h0' : Sc g0 = cs)
    (round : ∀ g, WpT P b ty c (thenT (fun s' cs' => ∃ g', μ g' < μ g ∧ Weak s' (St g') ∧ Sc g' = cs') Q) (St g) (Sc g)) : WpT P b ty (.loop c) Q s cs := fun w0 O X a w r => by
  classical
  subst h0'
  let p : Act → World → Nat → Prop := fun a w n => ∃ g, μ g = n ∧ RelT b ty w0 O X (St g) (Sc g) a w
  let m : Act → World → Nat := fun a w => if h : ∃ n, p a w n then Classical.choose (exists_least h) else 0
  refine wp_loop (fun a w => ∃ n, p a w n) m ⟨_, g0, rfl, r.weak h0⟩ ?_
  intro a w hI
  have hm : m a w = Classical.choose (exists_least hI) := dif_pos hI
  obtain ⟨hp, hleast⟩ := Classical.choose_spec (exists_least hI)
  rw [← hm] at hp
  obtain ⟨g, hg, hr⟩ := hp
  refine wp_mono (round g _ _ _ _ _ hr) fun e a' w' ⟨s', cs', h1, h2⟩ => ?_
  cases e with
  | normal =>
    obtain ⟨g', hlt, hw, hcs⟩ := h1
    subst hcs
    have hr' := h2.weak hw
    have hI' : ∃ n, p a' w' n := ⟨_, g', rfl, hr'⟩
    refine ⟨hI', ?_⟩
    have hm' : m a' w' = Classical.choose (exists_least hI') := dif_pos hI'
    obtain ⟨_, hl'⟩ := Classical.choose_spec (exists_least hI')
    have := hl' (μ g') ⟨g', rfl, hr'⟩
    rw [hm']
    omega
  | _ => exact ⟨s', cs', h1, h2⟩
theorem WpT_forb {G : Type} (St : G → AS) (Sc : G → List PV) (μ : G → Nat) (g0 : G) {id : Nat} {x : Code} (h0 : Weak s (St g0)) (h0' : Sc g0 = cs)
    (round : ∀ g, WpT P b ty x (thenT (fun s' cs' => ∃ g', μ g' < μ g ∧ Weak s' (St g') ∧ Sc g' = cs') (blockT id Q)) (St g) (Sc g)) : WpT P b ty (.block id (.loop x)) Q s cs :=
  WpT_block (WpT_loop St Sc μ g0 h0 h0' round)
/-! Regions without lent calls. -/
theorem WpT_sreg {y : Code} (items : List (CItem P)) (ow : List Nat) {id : Nat} {ops : Array Oper} (hl : s.tmps.length ≤ 1000000) (h : ∀ K : AS → Prop, (∀ s', WpT P b ty y Q s' cs → K s') → runS P (items.map CItem.a) ow (prepL ops ops.toList 0) (some s) K) : WpT P b ty (.seq (.region id ops false) y) Q s cs :=
  WpT_seq (WpT_of (WpA_reg items ow hl (h _ fun _ h => h)))
theorem WpT_lreg (items : List (CItem P)) (ow : List Nat) {id : Nat} {ops : Array Oper} (hl : s.tmps.length ≤ 1000000) (h : ∀ K : AS → Prop, (∀ s', Q .normal s' cs → K s') → runS P (items.map CItem.a) ow (prepL ops ops.toList 0) (some s) K) : WpT P b ty (.region id ops false) Q s cs :=
  WpT_of (WpA_reg items ow hl (h _ fun _ h => h))
theorem WpT_ldraw (hm : P.follows .mixedOrders = true) (items : List (CItem P)) (ow : List Nat) {id : Nat} {ops : Array Oper} (hd : drawOk [] ops = true) (hl : s.tmps.length ≤ 1000000) (h : ∀ K : AS → Prop, (∀ s', Q .normal s' cs → K s') → runS P (items.map CItem.a) ow (prepL ops ops.toList 0) (some s) K) : WpT P b ty (.region id ops true) Q s cs :=
  WpT_of (WpA_drawn hm items ow hd (by simp) (fun x hx => by simp at hx) hl (h _ fun _ h => h))
end
def CallT (P : Program) (b : Nat) (ty : TypeId) (f : FuncId) (args : List TV) (cs : List PV) (res : CallRes) (cs' : List PV) : Prop :=
  callable P f = true ∧ ∀ (X : Nat → Prop) (w : World) (vs : Array Value), (∀ j, X j → j < w.heap.size) → X b → BoxIs b ty cs X w → vs.size = args.length →
    (∀ (j : Nat) t, args[j]? = some t → ∃ v : Value, vs[j]? = some v ∧ t.rel (fun _ _ => none) (fun _ => []) X w v) →
    Calls P f vs w fun e w' => ∃ v, e = .returned v ∧ ∃ ρ : Rho, Inv w (fun j => j = b) X (famH 0 res.fam) ρ w' ∧ res.r.rel ρ (famH 0 res.fam) (Xo X ρ (famH 0 res.fam)) w' v ∧ BoxIs b ty cs' (Xo X ρ (famH 0 res.fam)) w'
section
variable {P : Program} {b : Nat} {ty : TypeId} {cs cs' : List PV} {w0 w : World} {O X : Nat → Prop} {ρ : Rho} {s : AS} {a : Act}
theorem lent_rel {it : Item P} {d : Nat} (h1 : a.defers = []) (hsz : a.tmps.size = s.tmps.length) (hinv : Inv w0 O X s.H ρ w) (htm : TmRel X ρ s a w) (hO : O b) (hX : X b) {t : TV} {F : List OObj} (ht : renTV d it.res.r = t) (hF : it.res.fam.map (renO d) = F) (hd : F ≠ [] → s.H d = [])
    {v : Value} {w1 : World} {ρc : Rho} (hi : Inv w (fun j => j = b) (Xo X ρ s.H) (famH 0 it.res.fam) ρc w1) (hr : it.res.r.rel ρc (famH 0 it.res.fam) (Xo (Xo X ρ s.H) ρc (famH 0 it.res.fam)) w1 v)
    (hbox : BoxIs b ty cs' (Xo (Xo X ρ s.H) ρc (famH 0 it.res.fam)) w1) : RelT b ty w0 O X (ARes s d t F) cs' (a.put (some d) v) w1 := by
  have hbut : But b w w1 := ⟨hi.keep.os, hi.keep.tape, hi.keep.output, hi.keep.size, fun k hk hne => hi.keep.block k hk hne⟩
  have hnb : ∀ (x r : Nat) o b' c, (s.H x)[r]? = some o → ρ x r = some (b', c) → w1.heap[b']? = w.heap[b']? := fun x r o b' c ho hb' => hbut.block b' (objRel_lt (hinv.objs x r o ho) hb') (by rintro rfl; exact (hinv.old x r o b' c ho hb').2 hX)
  by_cases hfam : it.res.fam = []
  · rw [hfam] at hi hr hbox
    have hF0 : F = [] := by rw [← hF, hfam]; rfl
    subst hF0
    have mono : ∀ x u, AV.rel ρ s.H (Xo X ρ s.H) w x u → AV.rel ρ s.H (Xo X ρ s.H) w1 x u := fun x u hx => but_mono (.inl hX) hbut (fun a r o ho => ⟨o, ho, rfl, Nat.le_refl _, rfl⟩) (fun a r o b' c ho hb _ => .inr ⟨a, r, o, c, ho, hb⟩) hx
    have hinv' : Inv w0 O X s.H ρ w1 := ⟨hinv.keep.but hbut (.inr hO), fun x r o ho => objRel_map (hinv.objs x r o ho) rfl (fun b' c hb' => hnb x r o b' c ho hb') mono, hinv.inj, hinv.old, fun j hj => Nat.lt_of_lt_of_le (hinv.bar j hj) hbut.size, hinv.self⟩
    have htm' : TmRel X ρ s a w1 := fun k x hx => by
      obtain ⟨u, g1, g2⟩ := htm k x hx
      exact ⟨u, g1, TV.rel_map g2 mono⟩
    have hv : t.rel ρ s.H (Xo X ρ s.H) w1 v := by
      rw [← ht]
      exact renTV_rel hr (fun x u hx => ren_rel (fun r o' ho' => by simp at ho') (fun j _ hj => .inl hj) hx)
    show RelT b ty w0 O X (s.put (some d) t) cs' _ _
    refine ⟨by rw [put_defers]; exact h1, by rw [put_size, put_len]; exact hsz, ρ, by rw [put_H]; exact hinv', put_tm hsz htm' hv, hO, hX, ?_⟩
    rw [put_H]
    exact hbox.weaken fun j _ hj => .inl hj
  · have hF0 : F ≠ [] := by rw [← hF]; simpa using hfam
    have hd0 := hd hF0
    have hres : ARes s d t F = AS.put ⟨s.tmps, updH s.H d F⟩ (some d) t := by
      unfold ARes
      rw [if_neg (by simpa using hF0)]
    rw [hres]
    let f : Nat → Option (Nat × Nat) := fun r => if r < it.res.fam.length then ρc 0 r else none
    have hff : ∀ r j n, f r = some (j, n) → (∃ o', it.res.fam[r]? = some o') ∧ ρc 0 r = some (j, n) := fun r j n h => by
      simp only [f] at h
      split at h
      · rename_i hlt; exact ⟨⟨_, List.getElem?_eq_getElem hlt⟩, h⟩
      · cases h
    have hnew : ∀ (r j n : Nat), f r = some (j, n) → w.heap.size ≤ j := fun r j n h => by
      obtain ⟨⟨o', ho'⟩, g⟩ := hff r j n h
      have := hi.old 0 r o' j n (by simpa [famH] using ho') g
      rcases this.1 with h | h
      · exact h
      · exact absurd (h ▸ .inl hX) this.2
    have hXo : ∀ j, Xo X (newρ ρ d f) (updH s.H d F) j → Xo (Xo X ρ s.H) ρc (famH 0 it.res.fam) j := fun j hj => by
      rcases hj with hj | ⟨x', y', o', n, g1, g2⟩
      · exact .inl (.inl hj)
      · by_cases hxd : x' = d
        · subst hxd
          rw [newρ_eq] at g2
          obtain ⟨⟨o2, ho2⟩, g3⟩ := hff y' j n g2
          exact .inr ⟨0, y', o2, n, by simpa [famH] using ho2, g3⟩
        · rw [updH_ne hxd] at g1
          rw [newρ_ne hxd] at g2
          exact .inl (.inr ⟨x', y', o', n, g1, g2⟩)
    have mono : ∀ x u, AV.rel ρ s.H (Xo X ρ s.H) w x u → AV.rel (newρ ρ d f) (updH s.H d F) (Xo X (newρ ρ d f) (updH s.H d F)) w1 x u := fun x u hx => by
      refine but_mono (.inl hX) hbut (fun x r o ho => ?_) (fun x r o b' c ho hb hlt => ?_) hx
      · have hxd : x ≠ d := by rintro rfl; rw [hd0] at ho; simp at ho
        exact ⟨o, by rw [updH_ne hxd]; exact ho, rfl, Nat.le_refl _, newρ_ne hxd r⟩
      · by_cases hxd : x = d
        · subst hxd
          rw [newρ_eq] at hb
          have := hnew r b' c hb
          omega
        · rw [updH_ne hxd] at ho
          rw [newρ_ne hxd] at hb
          exact .inr ⟨x, r, o, c, ho, hb⟩
    have hmap : ∀ x u, AV.rel ρc (famH 0 it.res.fam) (Xo (Xo X ρ s.H) ρc (famH 0 it.res.fam)) w1 x u → AV.rel (newρ ρ d f) (updH s.H d F) (Xo X (newρ ρ d f) (updH s.H d F)) w1 (renAV d x) u := fun x u hx => by
      refine ren_rel (fun r o' ho' => ?_) (fun j _ hj => hXo j hj) hx
      rw [updH_eq, newρ_eq]
      simp only [f]
      rw [if_pos (List.getElem?_eq_some_iff.1 ho').1, ← hF, List.getElem?_map, ho']
      exact ⟨rfl, rfl⟩
    have hinv' : Inv w0 O X (updH s.H d F) (newρ ρ d f) w1 := by
      refine ⟨hinv.keep.but hbut (.inr hO), fun x r o ho => ?_, fun x r x' r' o o' j c c' ho ho' hr hr' => ?_, fun x r o j c ho hr => ?_, fun j hj => Nat.lt_of_lt_of_le (hinv.bar j hj) hbut.size, fun x r o ho => ?_⟩
      · by_cases hxd : x = d
        · subst hxd
          rw [updH_eq, ← hF, List.getElem?_map] at ho
          obtain ⟨o2, ho2, rfl⟩ := Option.map_eq_some_iff.1 ho
          have hobj := hi.objs 0 r o2 (by simpa [famH] using ho2)
          obtain ⟨z1, z2, z3⟩ := hobj
          refine ⟨fun e he => ?_, z2, ?_⟩
          · simp only [renO, List.mem_map] at he
            obtain ⟨e', he', rfl⟩ := he
            rw [List.length_map]; exact z1 e' he'
          · rw [newρ_eq]
            simp only [f]
            rw [if_pos (List.getElem?_eq_some_iff.1 ho2).1]
            cases hr0 : ρc 0 r with
            | none => rw [hr0] at z3; simp [renO, z3]
            | some bc =>
              obtain ⟨j, n⟩ := bc
              rw [hr0] at z3
              obtain ⟨cells, p1, p2, p3, p4, p5⟩ := z3
              refine ⟨cells, p1, p2, by simpa [renO] using p3, p4, fun i e j z he hz => ?_⟩
              simp only [renO, List.getElem?_map] at he
              obtain ⟨e', he', rfl⟩ := Option.map_eq_some_iff.1 he
              rw [List.getElem?_map] at hz
              obtain ⟨z', hz', rfl⟩ := Option.map_eq_some_iff.1 hz
              obtain ⟨u, u1, u2, u3⟩ := p5 i e' j z' he' hz'
              exact ⟨u, u1, u2, hmap z' u u3⟩
        · rw [updH_ne hxd] at ho
          exact objRel_map (hinv.objs x r o ho) (newρ_ne hxd r) (fun b' c hb' => hnb x r o b' c ho hb') mono
      · by_cases hx : x = d
        · subst hx
          rw [newρ_eq] at hr
          by_cases hx' : x' = x
          · subst hx'
            rw [newρ_eq] at hr'
            obtain ⟨⟨o1, ho1⟩, g1⟩ := hff r j c hr
            obtain ⟨⟨o2, ho2⟩, g2⟩ := hff r' j c' hr'
            exact ⟨rfl, (hi.inj 0 r 0 r' o1 o2 j c c' (by simpa [famH] using ho1) (by simpa [famH] using ho2) g1 g2).2⟩
          · rw [newρ_ne hx'] at hr'
            rw [updH_ne hx'] at ho'
            have := objRel_lt (hinv.objs x' r' o' ho') hr'
            have := hnew _ _ _ hr
            omega
        · rw [newρ_ne hx] at hr
          rw [updH_ne hx] at ho
          by_cases hx' : x' = d
          · subst hx'
            rw [newρ_eq] at hr'
            have := objRel_lt (hinv.objs x r o ho) hr
            have := hnew _ _ _ hr'
            omega
          · rw [newρ_ne hx'] at hr'
            rw [updH_ne hx'] at ho'
            exact hinv.inj x r x' r' o o' j c c' ho ho' hr hr'
      · by_cases hx : x = d
        · subst hx
          rw [newρ_eq] at hr
          have := hnew _ _ _ hr
          have hk := hinv.keep.size
          exact ⟨.inl (by omega), fun hX => by have := hinv.bar j hX; omega⟩
        · rw [newρ_ne hx] at hr
          rw [updH_ne hx] at ho
          exact hinv.old x r o j c ho hr
      · by_cases hx : x = d
        · subst hx
          rw [updH_eq, ← hF, List.getElem?_map] at ho
          obtain ⟨o2, ho2, rfl⟩ := Option.map_eq_some_iff.1 ho
          intro e he z hz
          simp only [renO, List.mem_map] at he
          obtain ⟨e', he', rfl⟩ := he
          simp only [List.mem_map] at hz
          obtain ⟨z', hz', rfl⟩ := hz
          cases z' <;> first | rfl | trivial
        · rw [updH_ne hx] at ho
          exact hinv.self x r o ho
    have htm' : TmRel X (newρ ρ d f) ⟨s.tmps, updH s.H d F⟩ a w1 := fun k x hx => by
      obtain ⟨u, g1, g2⟩ := htm k x hx
      exact ⟨u, g1, TV.rel_map g2 mono⟩
    have hv : t.rel (newρ ρ d f) (updH s.H d F) (Xo X (newρ ρ d f) (updH s.H d F)) w1 v := by
      rw [← ht]
      exact renTV_rel hr hmap
    refine ⟨by rw [put_defers]; exact h1, by rw [put_size, put_len]; exact hsz, newρ ρ d f, by rw [put_H]; exact hinv', put_tm (s := ⟨s.tmps, updH s.H d F⟩) hsz htm' hv, hO, hX, ?_⟩
    rw [put_H]
    exact hbox.weaken fun j _ hj => hXo j hj
theorem norm_raw {H : OH} {t : TV} (h : rawTV (norm H t) = true) : norm H t = t := by
  unfold norm at h ⊢
  split
  · rename_i a r off len
    simp only at h
    split at h <;> cases h
  · cases h
  · rfl
theorem rawTV_any {H H' : OH} {ρ' : Rho} {Y Y' : Nat → Prop} {w' : World} {t : TV} {v : Value} (h : rawTV t = true) (hr : t.rel ρ H Y w v) : t.rel ρ' H' Y' w' v := by
  have hav : ∀ x u, rawAV x = true → AV.rel ρ H Y w x u → AV.rel ρ' H' Y' w' x u := fun x u hx hu => by
    cases x with
    | p x =>
      cases x with
      | raw z =>
        obtain ⟨rfl, h1⟩ := rel_raw (ρ := ρ) (H := H) hu
        exact Rep.raw _ h1
      | sl xs => cases hx
      | ptr cs => cases hx
    | sl a r off len => cases hx
    | ptr a r i j => cases hx
    | junk => cases hx
  have agg : ∀ cs v, cs.all rawAV = true → aggRel ρ H Y w cs v → aggRel ρ' H' Y' w' cs v := fun cs v hc ⟨vs, g1, g2, g3⟩ => by
    simp only [List.all_eq_true] at hc
    exact ⟨vs, g1, g2, fun j x hx => by obtain ⟨u, u1, u2, u3⟩ := g3 j x hx; exact ⟨u, u1, u2, hav x u (hc x (List.mem_of_getElem? hx)) u3⟩⟩
  cases t with
  | one x => exact hav x v h hr
  | agg cs => exact agg cs v h hr
  | fn f cs => obtain ⟨u, h1, h2⟩ := hr; exact ⟨u, agg cs u h h1, h2⟩
  | tup ts =>
    simp only [rawTV, List.all_eq_true] at h
    obtain ⟨vs, g1, g2, g3⟩ := hr
    refine ⟨vs, g1, g2, fun j c cs hj => ?_⟩
    obtain ⟨u, u1, u2⟩ := g3 j c cs hj
    have hall := h (c, cs) (List.mem_of_getElem? hj)
    refine ⟨u, u1, ?_⟩
    rcases u2 with ⟨u2, u3⟩ | ⟨u2, x, rfl, u4⟩
    · exact .inl ⟨u2, agg _ _ (by simpa only [List.all_eq_true] using hall) u3⟩
    · exact .inr ⟨u2, _, rfl, hav x u (hall x (by simp)) u4⟩
theorem lent_wp {items : List (Item P)} {ow : List Nat} {i : Nat} {s1 : AS} (hrel : RelT b ty w0 O X s cs a w) {o : Oper} {c : Call} {f : FuncId} (ho : o.op = .call c) (hcal : c.callee = .value (.func f)) {it : Item P} (hit : items.find? (·.i == i) = some it)
    (hraw : it.args.all rawTV = true) (hcon : CallT P b ty it.f it.args cs it.res cs') (h : absOp P items ow i o s = some s1) {K : Act → World → Prop} {Q : Exit → Act → World → Prop}
    (hK : ∀ v w', RelT b ty w0 O X s1 cs' (a.put o.dst v) w' → K (a.put o.dst v) w') : o.wp P a w K Q := by
  obtain ⟨h1, hsz, ρ, hinv, htm, hO, hX, hbox⟩ := hrel
  have hM : isM o.op = false := by rw [ho]; rfl
  have hR : isR o.op = false := by
    obtain ⟨callee, args, tys⟩ := c
    simp only at hcal
    subst hcal
    rw [ho]; rfl
  have hD : effD P s.ev s.H o.op = none := by
    obtain ⟨callee, args, tys⟩ := c
    simp only at hcal
    subst hcal
    rw [ho]; rfl
  unfold absOp at h
  simp only [hM, hR, hD, Bool.false_eq_true, if_false] at h
  obtain ⟨d, t, F, hdst, hA, hdF, hs1⟩ : ∃ d t F, o.dst = some d ∧ effA P items ow i d s.ev s.H o.op = some (t, F) ∧ (F ≠ [] → s.H d = []) ∧ s1 = ARes s d t F := by
    split at h
    · cases h
    · rename_i d hd
      split at h
      · rename_i t ht
        injection h with h
        exact ⟨d, t, [], hd, ht, fun h => absurd rfl h, by rw [← h]; rfl⟩
      · rename_i t F hF ht
        split at h
        · rename_i hH
          injection h with h
          refine ⟨d, t, F, hd, ht, fun _ => hH, ?_⟩
          rw [← h]
          unfold ARes
          rw [if_neg (by intro h; exact hF (List.isEmpty_iff.1 h))]
        · cases h
      · cases h
  subst hs1
  rw [ho] at hA
  simp only [effA, hcal] at hA
  rw [hit] at hA
  split at hA
  · rename_i it' ts hit' hts
    injection hit' with hit'
    subst hit'
    split at hA
    · rename_i hc
      obtain ⟨c1, c2, _, _⟩ := hc
      injection hA with hA
      injection hA with ht hF
      subst c1
      obtain ⟨e1, e2⟩ := evAll_spec hts
      obtain ⟨hcallable, hcon⟩ := hcon
      have hrun := run_call (w := w) ho hcal (e := a.eval) rfl hcallable
      unfold Oper.wp
      rw [hrun]
      simp only [Oper.upon]
      have hXlt : ∀ j, Xo X ρ s.H j → j < w.heap.size := fun j hj => by
        rcases hj with hj | ⟨x, y, o', n, g1, g2⟩
        · exact hinv.bar j hj
        · exact objRel_lt (hinv.objs x y o' g1) g2
      refine (hcon (Xo X ρ s.H) w (c.args.map a.eval) hXlt (.inl hX) hbox ?_ ?_).mono ?_
      · rw [← c2]; simp [e1]
      · intro j u hu
        have hru : rawTV u = true := by
          rw [List.all_eq_true] at hraw
          exact hraw u (List.mem_of_getElem? hu)
        rw [← c2, List.getElem?_map] at hu
        obtain ⟨t0, ht0, rfl⟩ := Option.map_eq_some_iff.1 hu
        obtain ⟨x, hx, hxt⟩ := e2 j t0 ht0
        refine ⟨a.eval x, by rw [Array.getElem?_map]; simp at hx; rw [hx]; rfl, ?_⟩
        have hne := norm_raw hru
        rw [hne] at hru ⊢
        exact rawTV_any hru (ev_rel htm x t0 hxt)
      · rintro e w1 ⟨v, rfl, ρc, hi, hr, hb'⟩
        show K (a.put o.dst v) w1
        refine hK v w1 ?_
        rw [hdst]
        exact lent_rel h1 hsz hinv htm hO hX ht hF hdF hi hr hb'
    · cases hA
  · cases hA
end
end Go.Proofs.YtobnpabndpmabaaGreat
namespace Go.Proofs.YtobnpabndpmabaaGreat
open Go.RowKit
theorem ret_inv {w w' : World} {O X : Nat → Prop} {s2 : AS} {ρ : Rho} {res : CallRes} {r : TV} {a0 : Nat} {v : Value} (hinv : Inv w O X s2.H ρ w') (v2 : r.rel ρ s2.H (Xo X ρ s2.H) w' v) (hself : selfTV a0 r) (hfam : res.fam = (s2.H a0).map (renO 0)) (hr : res.r = renTV 0 r) :
    ∃ ρ' : Rho, Inv w O X (famH 0 res.fam) ρ' w' ∧ res.r.rel ρ' (famH 0 res.fam) (Xo X ρ' (famH 0 res.fam)) w' v ∧ ∀ b, Xo X ρ' (famH 0 res.fam) b → Xo X ρ s2.H b := by
  have hF : ∀ (k : Nat) o, (famH 0 res.fam 0)[k]? = some o → ∃ o', (s2.H a0)[k]? = some o' ∧ o = renO 0 o' := fun k o ho => by
    simp only [famH, if_true, hfam, List.getElem?_map] at ho
    obtain ⟨o', g1, g2⟩ := Option.map_eq_some_iff.1 ho
    exact ⟨o', g1, g2.symm⟩
  have hz : ∀ (x k : Nat) o, (famH 0 res.fam x)[k]? = some o → x = 0 := fun x k o ho => by
    by_cases hx : x = 0
    · exact hx
    · simp [famH, hx] at ho
  have hXo : ∀ b, Xo X (fun _ k => ρ a0 k) (famH 0 res.fam) b → Xo X ρ s2.H b := fun b hb => by
    rcases hb with hb | ⟨x, k, o, n, g1, g2⟩
    · exact .inl hb
    · have := hz x k o g1
      subst this
      obtain ⟨o', g3, _⟩ := hF k o g1
      exact .inr ⟨a0, k, o', n, g3, g2⟩
  have hmap : ∀ x u, selfAV a0 x → AV.rel ρ s2.H (Xo X ρ s2.H) w' x u → AV.rel (fun _ k => ρ a0 k) (famH 0 res.fam) (Xo X (fun _ k => ρ a0 k) (famH 0 res.fam)) w' (renAV 0 x) u := fun x u hs hx => by
    cases x with
    | p x => exact Rep.weaken (fun b _ hb => hXo b hb) hx
    | sl x k off len =>
      have hs : x = a0 := hs
      subst hs
      obtain ⟨o, g1, g2, g3⟩ := hx
      exact ⟨renO 0 o, by simp [famH, hfam, g1], by simpa [renO] using g2, g3⟩
    | ptr x k i j =>
      have hs : x = a0 := hs
      subst hs
      obtain ⟨o, b, c, g1, g2, g3, g4⟩ := hx
      exact ⟨renO 0 o, b, c, by simp [famH, hfam, g1], g2, by simpa [renO] using g3, g4⟩
    | junk => trivial
  have hfin : ∃ ρ' : Rho, Inv w O X (famH 0 res.fam) ρ' w' ∧ res.r.rel ρ' (famH 0 res.fam) (Xo X ρ' (famH 0 res.fam)) w' v ∧ ∀ b, Xo X ρ' (famH 0 res.fam) b → Xo X ρ s2.H b := by
    refine ⟨fun _ k => ρ a0 k, ⟨hinv.keep, fun x k o ho => ?_, fun x k x' k' o o' b c c' ho ho' hr1 hr2 => ?_, fun x k o b c ho hr1 => ?_, hinv.bar, fun x k o ho => ?_⟩, ?_, hXo⟩
    · have := hz x k o ho
      subst this
      obtain ⟨o', g1, rfl⟩ := hF k o ho
      obtain ⟨z1, z2, z3⟩ := hinv.objs a0 k o' g1
      refine ⟨fun e he => ?_, z2, ?_⟩
      · simp only [renO, List.mem_map] at he
        obtain ⟨e', he', rfl⟩ := he
        rw [List.length_map]; exact z1 e' he'
      · cases hr0 : ρ a0 k with
        | none => rw [hr0] at z3; simp only [hr0]; simp [renO, z3]
        | some bc =>
          obtain ⟨b, n⟩ := bc
          rw [hr0] at z3
          obtain ⟨cells, p1, p2, p3, p4, p5⟩ := z3
          simp only [hr0]
          refine ⟨cells, p1, p2, by simpa [renO] using p3, p4, fun i e j z he hz => ?_⟩
          simp only [renO, List.getElem?_map] at he
          obtain ⟨e', he', rfl⟩ := Option.map_eq_some_iff.1 he
          rw [List.getElem?_map] at hz
          obtain ⟨z', hz', rfl⟩ := Option.map_eq_some_iff.1 hz
          obtain ⟨u, u1, u2, u3⟩ := p5 i e' j z' he' hz'
          exact ⟨u, u1, u2, hmap z' u (hinv.self a0 k o' g1 e' (List.mem_of_getElem? he') z' (List.mem_of_getElem? hz')) u3⟩
    · have e1 := hz x k o ho
      have e2 := hz x' k' o' ho'
      subst e1 e2
      obtain ⟨o1, g1, _⟩ := hF k o ho
      obtain ⟨o2, g2, _⟩ := hF k' o' ho'
      exact ⟨rfl, (hinv.inj a0 k a0 k' o1 o2 b c c' g1 g2 hr1 hr2).2⟩
    · have e1 := hz x k o ho
      subst e1
      obtain ⟨o1, g1, _⟩ := hF k o ho
      exact hinv.old a0 k o1 b c g1 hr1
    · have e1 := hz x k o ho
      subst e1
      obtain ⟨o1, g1, rfl⟩ := hF k o ho
      intro e he z hzz
      simp only [renO, List.mem_map] at he
      obtain ⟨e', he', rfl⟩ := he
      simp only [List.mem_map] at hzz
      obtain ⟨z', hz', rfl⟩ := hzz
      cases z' <;> first | rfl | trivial
    · rw [hr]
      have agg : ∀ cs u, (∀ x ∈ cs, selfAV a0 x) → aggRel ρ s2.H (Xo X ρ s2.H) w' cs u → aggRel (fun _ k => ρ a0 k) (famH 0 res.fam) (Xo X (fun _ k => ρ a0 k) (famH 0 res.fam)) w' (cs.map (renAV 0)) u := fun cs u hs h => by
        obtain ⟨us, h1, h2, h3⟩ := h
        refine ⟨us, h1, by simpa using h2, fun j x hx => ?_⟩
        rw [List.getElem?_map] at hx
        obtain ⟨y, hy, rfl⟩ := Option.map_eq_some_iff.1 hx
        obtain ⟨u', u1, u2, u3⟩ := h3 j y hy
        exact ⟨u', u1, u2, hmap _ _ (hs y (List.mem_of_getElem? hy)) u3⟩
      cases r with
      | one x => exact hmap x v hself v2
      | agg cs => exact agg cs v hself v2
      | fn f cs => obtain ⟨u, h1, h2⟩ := v2; exact ⟨u, agg cs u hself h1, h2⟩
      | tup ts =>
        obtain ⟨us, h1, h2, h3⟩ := v2
        refine ⟨us, h1, by simpa using h2, fun j b cs hx => ?_⟩
        rw [List.getElem?_map] at hx
        obtain ⟨y, hy, hyy⟩ := Option.map_eq_some_iff.1 hx
        obtain ⟨b', cs'⟩ := y
        simp at hyy
        obtain ⟨rfl, rfl⟩ := hyy
        obtain ⟨u, u1, u2⟩ := h3 j b' cs' hy
        have hs := hself (b', cs') (List.mem_of_getElem? hy)
        refine ⟨u, u1, ?_⟩
        rcases u2 with ⟨u2, u3⟩ | ⟨u2, x, rfl, u4⟩
        · exact .inl ⟨u2, agg _ _ hs u3⟩
        · exact .inr ⟨u2, _, rfl, hmap _ _ (hs x (by simp)) u4⟩
  exact hfin
section
variable {P : Program} {b : Nat} {ty : TypeId} {cs cs' : List PV} {Q : Exit → AS → List PV → Prop} {s : AS}
theorem callT_of {f : FuncId} {fn : Func} {c : Code} {args : List TV} {res : CallRes} (hf : P.funcs[f]? = some fn) (hb : fn.body = some c) (hn : callable P f = true)
    (h : WpT P b ty c (fun e s k => (e = .normal ∨ e = .ret) ∧ k = cs' ∧ ∃ s', Weak s s' ∧ RetOk P fn res s') ⟨args ++ List.replicate (fn.ntmps - args.length) .undef, fun _ => []⟩ cs) : CallT P b ty f args cs res cs' := by
  refine ⟨hn, fun X w vs hX hXb hbox hvs hargs => ?_⟩
  refine calls_of_wp hf hb ?_
  have hXo : ∀ j, j < w.heap.size → Xo X (fun _ _ => none) (fun _ => []) j → X j := fun j _ h => by
    rcases h with h | ⟨a, r, o, c, h1, h2⟩
    · exact h
    · cases h2
  have hrel : RelT b ty w (fun j => j = b) X ⟨args ++ List.replicate (fn.ntmps - args.length) .undef, fun _ => []⟩ cs { tmps := vs ++ Array.replicate (fn.ntmps - vs.size) undef, defers := [] } w := by
    refine ⟨rfl, by simp [hvs], fun _ _ => none, ⟨Keep.refl w, fun a r o ho => by simp at ho, fun a r a' r' o o' b c c' ho => by simp at ho, fun a r o b c ho => by simp at ho, hX, fun a r o ho => by simp at ho⟩, fun t x hx => ?_, rfl, hXb, hbox.weaken hXo⟩
    by_cases ht : t < args.length
    · rw [List.getElem?_append_left ht] at hx
      obtain ⟨v, v1, v2⟩ := hargs t x hx
      refine ⟨v, by rw [Array.getElem?_append_left (by omega)]; exact v1, TV.rel_map v2 (fun y u hy => ?_)⟩
      cases y with
      | p y => exact Rep.weaken hXo hy
      | sl a r off len => obtain ⟨o, h1, _⟩ := hy; simp at h1
      | ptr a r i j => obtain ⟨o, _, _, h1, _⟩ := hy; simp at h1
      | junk => trivial
    · rw [List.getElem?_append_right (by omega), List.getElem?_replicate] at hx
      split at hx
      · rename_i hlt
        injection hx with hx
        subst hx
        refine ⟨undef, ?_, undef_rel⟩
        rw [Array.getElem?_append_right (by omega), Array.getElem?_replicate, if_pos (by omega)]
      · cases hx
  refine wp_mono (h _ _ _ _ _ hrel) fun e a' w' ⟨s1, k, ⟨he, hk, s2, hw, r, a0, hres, hself, hfam, hr⟩, hrel1⟩ => ?_
  subst hk
  obtain ⟨h1, hsz, ρ, hinv, htm, _, _, hbox'⟩ := hrel1.weak hw
  have htm : TmRel X ρ s2 a' w' := htm
  obtain ⟨v, v1, v2⟩ := resA_sound hinv htm hres
  obtain ⟨ρ', g1, g2, g3⟩ := ret_inv hinv v2 hself hfam hr
  rcases he with rfl | rfl
  · exact ⟨h1, v, v1, v, rfl, ρ', g1, g2, hbox'.weaken fun j _ hj => g3 j hj⟩
  · exact ⟨h1, v, v1, v, rfl, ρ', g1, g2, hbox'.weaken fun j _ hj => g3 j hj⟩
/-! Regions. -/
theorem effA_items {items items' : List (Item P)} {ow : List Nat} {i d : Nat} {ev : Operand → Option TV} {H : OH} {op : Op} (h : items.find? (·.i == i) = items'.find? (·.i == i)) : effA P items ow i d ev H op = effA P items' ow i d ev H op := by
  cases op <;> simp only [effA, h]
theorem absStep_items {items items' : List (Item P)} {ow : List Nat} {ops : Array Oper} {i : Nat} {o : Oper} {s : AS} (h : items.find? (·.i == i) = items'.find? (·.i == i)) : absStep P items ow ops i o s = absStep P items' ow ops i o s := by
  have e : absOp P items ow i o s = absOp P items' ow i o s := by
    unfold absOp
    simp only [effA_items h]
  unfold absStep
  simp only [e]
def lentAt (ops : Array Oper) (m : Nat) : Bool := match ops[m]? with
  | some o => o.guard.isNone && (match o.op with
    | .call c => (match c.callee with
      | .value (.func _) => true
      | _ => false)
    | _ => false)
  | none => false
theorem lentAt_spec {ops : Array Oper} {m : Nat} (h : lentAt ops m = true) {o : Oper} (ho : ops[m]? = some o) : o.guard = none ∧ ∃ c f, o.op = .call c ∧ c.callee = .value (.func f) := by
  unfold lentAt at h
  rw [ho] at h
  simp only [Bool.and_eq_true] at h
  obtain ⟨h1, h2⟩ := h
  refine ⟨by simpa using h1, ?_⟩
  split at h2
  · rename_i c hc
    split at h2
    · rename_i f hf
      exact ⟨c, f, hc, hf⟩
    · cases h2
  · cases h2
theorem find_other {items : List (CItem P)} {it : Item P} {i : Nat} (h : i ≠ it.i) : (items.map CItem.a ++ [it]).find? (·.i == i) = (items.map CItem.a).find? (·.i == i) := by
  rw [List.find?_append]
  have : [it].find? (·.i == i) = none := by simp [Ne.symm h]
  rw [this, Option.or_none]
theorem find_lent {items : List (CItem P)} {it : Item P} (h : items.all (fun c => c.i != it.i) = true) : (items.map CItem.a ++ [it]).find? (·.i == it.i) = some it := by
  rw [List.find?_append]
  have : (items.map CItem.a).find? (·.i == it.i) = none := by
    rw [List.find?_eq_none]
    intro x hx
    obtain ⟨c, hc, rfl⟩ := List.mem_map.1 hx
    rw [List.all_eq_true] at h
    have := h c hc
    simpa [CItem.a] using this
  rw [this]
  simp
theorem step_lent {w0 w : World} {O X : Nat → Prop} {a : Act} (items : List (CItem P)) (it : Item P) {ow : List Nat} {ops : Array Oper} {i : Nat} {o : Oper} (ho : ops[i]? = some o) (hL : lentAt ops it.i = true) (hF : items.all (fun c => c.i != it.i) = true) (hraw : it.args.all rawTV = true) (hcon : CallT P b ty it.f it.args cs it.res cs')
    {x : List PV} (hx : i = it.i → x = cs) {s1 : AS} (hrel : RelT b ty w0 O X s x a w) (h : absStep P (items.map CItem.a ++ [it]) ow ops i o s = some s1) {K : Act → World → Prop} {Q : Exit → Act → World → Prop}
    (hK : ∀ v w', RelT b ty w0 O X s1 (if i = it.i then cs' else x) (a.put o.dst v) w' → K (a.put o.dst v) w') : if Region.wanted o (yielded ops a.tmps) then o.wp P a w K Q else K (a.put o.dst undef) w := by
  by_cases hi : i = it.i
  · have hxx := hx hi
    subst hi hxx
    obtain ⟨hg, c, f, h1, h2⟩ := lentAt_spec hL ho
    rw [if_pos (by simp [Region.wanted, hg])]
    unfold absStep at h
    rw [hg] at h
    simp only [if_true] at hK
    exact lent_wp hrel h1 h2 (find_lent hF) hraw hcon h hK
  · rw [absStep_items (find_other hi)] at h
    obtain ⟨Own, r1, r2⟩ := hrel.rebase
    simp only [if_neg hi] at hK
    exact absStep_wp (CItem.ok items) r1 h fun v w' hr => hK v w' (r2 _ _ _ hr)
theorem runL_lent {w0 : World} {O X : Nat → Prop} (items : List (CItem P)) (it : Item P) {ow : List Nat} {ops : Array Oper} (hL : lentAt ops it.i = true) (hF : items.all (fun c => c.i != it.i) = true) (hraw : it.args.all rawTV = true) (hcon : CallT P b ty it.f it.args cs it.res cs') {Q : Exit → Act → World → Prop} :
    ∀ (l : List Oper) (k : Nat) (s s' : AS) (a : Act) (w : World), (∀ (j : Nat) o, l[j]? = some o → ops[k + j]? = some o) → runL P (items.map CItem.a ++ [it]) ow ops (l.zipIdx k) s = some s' → RelT b ty w0 O X s (if k ≤ it.i then cs else cs') a w →
      (∀ a' w', RelT b ty w0 O X s' (if k + l.length ≤ it.i then cs else cs') a' w' → Q .normal a' w') → wpOps P ops Q (List.range' k l.length) a w
  | [], k, s, s', a, w, _, h, r, hQ => by
    simp only [List.zipIdx_nil, runL] at h
    injection h with h
    subst h
    exact hQ a w r
  | o :: l, k, s, s', a, w, hl, h, r, hQ => by
    simp only [List.zipIdx_cons, runL] at h
    split at h
    · rename_i s1 hs1
      simp only [List.length_cons, List.range'_succ, wpOps]
      have ho : ops[k]? = some o := by have := hl 0 o rfl; simpa using this
      rw [ho]
      simp only
      have := step_lent (Q := Q) items it ho hL hF hraw hcon (x := if k ≤ it.i then cs else cs') (fun hk => if_pos (by omega)) r hs1 (K := wpOps P ops Q (List.range' (k + 1) l.length)) (fun v w' hr => runL_lent items it hL hF hraw hcon l (k + 1) s1 s' _ _ (fun j o hj => by have := hl (j + 1) o (by simpa using hj); rwa [show k + (j + 1) = k + 1 + j by omega] at this) h (by
        have e : (if k = it.i then cs' else if k ≤ it.i then cs else cs') = if k + 1 ≤ it.i then cs else cs' := by
          by_cases h1 : k = it.i
          · rw [if_pos h1, if_neg (by omega)]
          · rw [if_neg h1]
            by_cases h2 : k ≤ it.i
            · rw [if_pos h2, if_pos (by omega)]
            · rw [if_neg h2, if_neg (by omega)]
        rw [e] at hr
        exact hr) (fun a' w' hr' => hQ a' w' (by rw [List.length_cons, show k + (l.length + 1) = k + 1 + l.length by omega]; exact hr')))
      split at this
      · rename_i hw; rw [if_pos hw]; exact .inl this
      · rename_i hw; rw [if_neg hw]; exact this
    · cases h
theorem WpT_lentR (m : Nat) {f : FuncId} {args : List TV} {res : CallRes} (hcon : CallT P b ty f args cs res cs') (items : List (CItem P)) (ow : List Nat) {id : Nat} {ops : Array Oper} (hL : lentAt ops m = true) (hF : items.all (fun c => c.i != m) = true) (hraw : args.all rawTV = true) (hl : s.tmps.length ≤ 1000000)
    (h : runS P (items.map CItem.a ++ [⟨m, f, args, res⟩]) ow (prepL ops ops.toList 0) (some s) (fun s' => Q .normal s' cs')) : WpT P b ty (.region id ops false) Q s cs := fun w0 O X a w r => by
  obtain ⟨s', h1, h2⟩ := runS_sound P _ ow ops ops.toList 0 s _ hl h
  refine wp_region ?_
  rw [List.range_eq_range']
  have hm : m < ops.size := by
    unfold lentAt at hL
    split at hL
    · rename_i o ho; exact (Array.getElem?_eq_some_iff.1 ho).1
    · cases hL
  have := runL_lent (w0 := w0) (O := O) (X := X) items ⟨m, f, args, res⟩ hL hF hraw hcon (Q := fun e a' w' => ∃ s' k, Q e s' k ∧ RelT b ty w0 O X s' k a' w') ops.toList 0 s s' a w (fun j o hj => by simpa using hj) h1 (by simpa using r) (fun a' w' hr => ⟨s', cs', h2, by
    rw [if_neg (by simp; omega)] at hr
    exact hr⟩)
  simpa using this
theorem WpT_lentD (hmx : P.follows .mixedOrders = true) (m : Nat) {f : FuncId} {args : List TV} {res : CallRes} (hcon : CallT P b ty f args cs res cs') (items : List (CItem P)) (ow : List Nat) {id : Nat} {ops : Array Oper} (hd : drawOk [] ops = true) (hL : lentAt ops m = true) (hF : items.all (fun c => c.i != m) = true) (hraw : args.all rawTV = true) (hl : s.tmps.length ≤ 1000000)
    (h : runS P (items.map CItem.a ++ [⟨m, f, args, res⟩]) ow (prepL ops ops.toList 0) (some s) (fun s' => Q .normal s' cs')) : WpT P b ty (.region id ops true) Q s cs := fun w0 O X a w r => by
  obtain ⟨sF, h1, h2⟩ := runS_sound P _ ow ops ops.toList 0 s _ hl h
  have hm : m < ops.size := by
    unfold lentAt at hL
    split at hL
    · rename_i o ho; exact (Array.getElem?_eq_some_iff.1 ho).1
    · cases hL
  refine wp_region_any hmx ?_
  have hrun : runI P (items.map CItem.a ++ [⟨m, f, args, res⟩]) ow ops (List.range ops.size) s = some sF := by
    rw [List.range_eq_range']
    have := runL_runI (P := P) (items := items.map CItem.a ++ [⟨m, f, args, res⟩]) (ow := ow) ops.toList 0 s (fun j o hj => by simpa using hj)
    rw [h1] at this
    simpa using this.symm
  have hr' : RelT b ty w0 O X s cs a { w with drawn := w.drawn + 1 } := by
    obtain ⟨Own, g1, g2⟩ := r.rebase
    obtain ⟨q1, q2, ρ, hinv, htm⟩ := g1
    have e : Ext w { w with drawn := w.drawn + 1 } := ⟨rfl, rfl, rfl, Nat.le_refl _, fun _ _ => rfl⟩
    have htm : TmRel X ρ s a w := htm
    exact g2 _ _ _ ⟨q1, q2, ρ, hinv.grow e, htm.grow e⟩
  refine any_orderG (sep := []) (draw_sok hd (by simp)) hd (Q := fun e a' w' => ∃ s' k, Q e s' k ∧ RelT b ty w0 O X s' k a' w') (fun p s a w => RelT b ty w0 O X s (if p m then cs' else cs) a w) ⟨live_of_rel r.rel, fun x hx => by simp at hx⟩ hrun (fun p a w hall hr => ⟨sF, cs', h2, by
    rw [if_pos (hall m hm)] at hr
    exact hr⟩) (fun p i o s s1 a w K ho hpi hs hr hK => ?_) ops.size (Array.replicate ops.size false) s a _ (by simp) ?_ ?_ ?_ ?_
  · refine step_lent items ⟨m, f, args, res⟩ ho hL hF hraw hcon (x := if p m then cs' else cs) (fun hi => ?_) hr hs (fun v w' hr' => hK v w' ?_)
    · have hi : i = m := hi
      subst hi
      rw [if_neg (by simp [hpi])]
    · by_cases hi : i = m
      · subst hi
        simpa [addP] using hr'
      · have hmi : (m == i) = false := by simpa using Ne.symm hi
        simpa [addP, hi, hmi] using hr'
  · intro j o ho hp
    have hj : j < ops.size := (Array.getElem?_eq_some_iff.1 ho).1
    simp [hj] at hp
  · exact Nat.le_trans (List.length_filter_le _ _) (by simp)
  · have : sel ops.size (fun j => (Array.replicate ops.size false).getD j true) = [] := by
      unfold sel
      rw [List.filter_eq_nil_iff]
      intro j hj
      have := List.mem_range.1 hj
      simp [this]
    rw [this]
    rfl
  · have : (Array.replicate ops.size false).getD m true = false := by simp [hm]
    simp only [this]
    exact hr'
theorem WpT_slent (m : Nat) {f : FuncId} {args : List TV} {res : CallRes} (hcon : CallT P b ty f args cs res cs') (items : List (CItem P)) (ow : List Nat) {id : Nat} {ops : Array Oper} {y : Code} (hL : lentAt ops m = true) (hF : items.all (fun c => c.i != m) = true) (hraw : args.all rawTV = true) (hl : s.tmps.length ≤ 1000000)
    (h : ∀ K : AS → Prop, (∀ s', WpT P b ty y Q s' cs' → K s') → runS P (items.map CItem.a ++ [⟨m, f, args, res⟩]) ow (prepL ops ops.toList 0) (some s) K) : WpT P b ty (.seq (.region id ops false) y) Q s cs :=
  WpT_seq (WpT_lentR m hcon items ow hL hF hraw hl (h _ fun _ h => h))
theorem WpT_llent (m : Nat) {f : FuncId} {args : List TV} {res : CallRes} (hcon : CallT P b ty f args cs res cs') (items : List (CItem P)) (ow : List Nat) {id : Nat} {ops : Array Oper} (hL : lentAt ops m = true) (hF : items.all (fun c => c.i != m) = true) (hraw : args.all rawTV = true) (hl : s.tmps.length ≤ 1000000)
    (h : ∀ K : AS → Prop, (∀ s', Q .normal s' cs' → K s') → runS P (items.map CItem.a ++ [⟨m, f, args, res⟩]) ow (prepL ops ops.toList 0) (some s) K) : WpT P b ty (.region id ops false) Q s cs :=
  WpT_lentR m hcon items ow hL hF hraw hl (h _ fun _ h => h)
theorem WpT_sldraw (hmx : P.follows .mixedOrders = true) (m : Nat) {f : FuncId} {args : List TV} {res : CallRes} (hcon : CallT P b ty f args cs res cs') (items : List (CItem P)) (ow : List Nat) {id : Nat} {ops : Array Oper} {y : Code} (hd : drawOk [] ops = true) (hL : lentAt ops m = true) (hF : items.all (fun c => c.i != m) = true) (hraw : args.all rawTV = true) (hl : s.tmps.length ≤ 1000000)
    (h : ∀ K : AS → Prop, (∀ s', WpT P b ty y Q s' cs' → K s') → runS P (items.map CItem.a ++ [⟨m, f, args, res⟩]) ow (prepL ops ops.toList 0) (some s) K) : WpT P b ty (.seq (.region id ops true) y) Q s cs :=
  WpT_seq (WpT_lentD hmx m hcon items ow hd hL hF hraw hl (h _ fun _ h => h))
theorem WpT_lldraw (hmx : P.follows .mixedOrders = true) (m : Nat) {f : FuncId} {args : List TV} {res : CallRes} (hcon : CallT P b ty f args cs res cs') (items : List (CItem P)) (ow : List Nat) {id : Nat} {ops : Array Oper} (hd : drawOk [] ops = true) (hL : lentAt ops m = true) (hF : items.all (fun c => c.i != m) = true) (hraw : args.all rawTV = true) (hl : s.tmps.length ≤ 1000000)
    (h : ∀ K : AS → Prop, (∀ s', Q .normal s' cs' → K s') → runS P (items.map CItem.a ++ [⟨m, f, args, res⟩]) ow (prepL ops ops.toList 0) (some s) K) : WpT P b ty (.region id ops true) Q s cs :=
  WpT_lentD hmx m hcon items ow hd hL hF hraw hl (h _ fun _ h => h)
end
/-! A box of one's own is lent. -/
def lnAV (d b : Nat) : AV → AV
  | .sl x r off len => if x = d then .junk else .sl x r off len
  | .ptr x r i j => if x = d then (if r = 0 ∧ i = 0 ∧ j = 0 then .raw (.pointer (some ⟨b, 0, none⟩)) else .junk) else .ptr x r i j
  | x => x
def lnTV (d b : Nat) : TV → TV
  | .one x => .one (lnAV d b x)
  | .agg cs => .agg (cs.map (lnAV d b))
  | .fn f cs => .fn f (cs.map (lnAV d b))
  | .tup ts => .tup (ts.map fun t => (t.1, t.2.map (lnAV d b)))
theorem WpA_lend {P : Program} {c : Code} {Q : Exit → AS → Prop} {s : AS} (d : Nat) {ty : TypeId} {cs : List PV} (hd : s.H d = [⟨ty, cs.length, [cs.map AV.p]⟩]) (h : ∀ b, WpT P b ty c (fun e s' _ => Q e s') ⟨s.tmps.map (lnTV d b), updH s.H d []⟩ cs) : WpA P c Q s := fun w0 O X a w r => by
  obtain ⟨h1, hsz, ρ, hinv, htm⟩ := r
  have htm : TmRel X ρ s a w := htm
  have hget : (s.H d)[0]? = some ⟨ty, cs.length, [cs.map AV.p]⟩ := by rw [hd]; rfl
  obtain ⟨z1, z2, z3⟩ := hinv.objs d 0 _ hget
  cases hρ : ρ d 0 with
  | none => rw [hρ] at z3; cases z3
  | some bc =>
    obtain ⟨b, n⟩ := bc
    rw [hρ] at z3
    obtain ⟨cells, p1, p2, p3, p4, p5⟩ := z3
    have hold := hinv.old d 0 _ b n hget hρ
    have hna : ∀ (x y : Nat) o, (updH s.H d [] x)[y]? = some o → x ≠ d ∧ (s.H x)[y]? = some o := fun x y o ho => by
      by_cases hx : x = d
      · subst hx; rw [updH_eq] at ho; simp at ho
      · rw [updH_ne hx] at ho; exact ⟨hx, ho⟩
    have hXo : ∀ j, Xo (fun j => X j ∨ j = b) ρ (updH s.H d []) j → Xo X ρ s.H j := fun j hj => by
      rcases hj with (hj | rfl) | ⟨x, y, o, n', g1, g2⟩
      · exact .inl hj
      · exact .inr ⟨d, 0, _, n, hget, hρ⟩
      · exact .inr ⟨x, y, o, n', (hna x y o g1).2, g2⟩
    have hmap : ∀ x v, AV.rel ρ s.H (Xo X ρ s.H) w x v → AV.rel ρ (updH s.H d []) (Xo (fun j => X j ∨ j = b) ρ (updH s.H d [])) w (lnAV d b x) v := fun x v hx => by
      cases x with
      | p x => exact Rep.weaken (fun j _ hj => hXo j hj) hx
      | sl x r off len =>
        simp only [lnAV]
        split
        · trivial
        · rename_i hxd
          obtain ⟨o, g1, g2⟩ := hx
          exact ⟨o, by rw [updH_ne hxd]; exact g1, g2⟩
      | ptr x r i j =>
        simp only [lnAV]
        split
        · rename_i hxd
          subst hxd
          split
          · rename_i hc
            obtain ⟨rfl, rfl, rfl⟩ := hc
            obtain ⟨o, b', c', g1, g2, g3, g4⟩ := hx
            rw [hρ] at g2
            injection g2 with g2
            injection g2 with g2 g2'
            subst g2
            rw [g4]
            simp only [Nat.zero_mul, Nat.add_zero]
            exact Rep.raw _ rfl
          · trivial
        · rename_i hxd
          obtain ⟨o, b', c', g1, g2⟩ := hx
          exact ⟨o, b', c', by rw [updH_ne hxd]; exact g1, g2⟩
      | junk => trivial
    have hagg : ∀ cs v, aggRel ρ s.H (Xo X ρ s.H) w cs v → aggRel ρ (updH s.H d []) (Xo (fun j => X j ∨ j = b) ρ (updH s.H d [])) w (cs.map (lnAV d b)) v := fun cs v ⟨vs, g1, g2, g3⟩ => by
      refine ⟨vs, g1, by simpa using g2, fun j x hx => ?_⟩
      rw [List.getElem?_map] at hx
      obtain ⟨y, hy, rfl⟩ := Option.map_eq_some_iff.1 hx
      obtain ⟨u, u1, u2, u3⟩ := g3 j y hy
      exact ⟨u, u1, u2, hmap y u u3⟩
    have hrel : RelT b ty w0 (fun j => O j ∨ j = b) (fun j => X j ∨ j = b) ⟨s.tmps.map (lnTV d b), updH s.H d []⟩ cs a w := by
      refine ⟨h1, by simpa using hsz, ρ, ⟨⟨hinv.keep.os, hinv.keep.tape, hinv.keep.output, hinv.keep.size, fun k hk hn => hinv.keep.block k hk (fun h => hn (.inl h))⟩, fun x y o ho => ?_, fun x y x' y' o o' j c c' ho ho' => hinv.inj x y x' y' o o' j c c' (hna x y o ho).2 (hna x' y' o' ho').2, fun x y o j c ho hj => ?_, fun j hj => ?_, fun x y o ho => hinv.self x y o (hna x y o ho).2⟩, fun t x hx => ?_, .inr rfl, .inr rfl, ?_⟩
      · obtain ⟨hxd, ho'⟩ := hna x y o ho
        obtain ⟨q1, q2, q3⟩ := hinv.objs x y o ho'
        refine ⟨q1, q2, ?_⟩
        cases hr : ρ x y with
        | none => rw [hr] at q3; exact q3
        | some bc =>
          obtain ⟨b', c'⟩ := bc
          rw [hr] at q3
          obtain ⟨cells', r1, r2, r3, r4, r5⟩ := q3
          refine ⟨cells', r1, r2, r3, r4, fun i e j z he hz => ?_⟩
          obtain ⟨u, u1, u2, u3⟩ := r5 i e j z he hz
          have hs := hinv.self x y o ho' e (List.mem_of_getElem? he) z (List.mem_of_getElem? hz)
          have := hmap z u u3
          refine ⟨u, u1, u2, ?_⟩
          cases z with
          | sl z _ _ _ => have hs : z = x := hs; subst hs; simpa [lnAV, hxd] using this
          | ptr z _ _ _ => have hs : z = x := hs; subst hs; simpa [lnAV, hxd] using this
          | p z => exact this
          | junk => trivial
      · obtain ⟨hxd, ho'⟩ := hna x y o ho
        obtain ⟨g1, g2⟩ := hinv.old x y o j c ho' hj
        refine ⟨?_, ?_⟩
        · rcases g1 with g | g
          · exact .inl g
          · exact .inr (.inl g)
        · rintro (g | rfl)
          · exact g2 g
          · exact hxd (hinv.inj x y d 0 o _ j c n ho' hget hj hρ).1
      · rcases hj with hj | rfl
        · exact hinv.bar j hj
        · exact (Array.getElem?_eq_some_iff.1 p1).1
      · simp only [List.getElem?_map] at hx
        obtain ⟨y, hy, rfl⟩ := Option.map_eq_some_iff.1 hx
        obtain ⟨v, v1, v2⟩ := htm t y hy
        refine ⟨v, v1, ?_⟩
        cases y with
        | one x => exact hmap x v v2
        | agg cs => exact hagg cs v v2
        | fn f cs => obtain ⟨u, h1, h2⟩ := v2; exact ⟨u, hagg cs u h1, h2⟩
        | tup ts =>
          obtain ⟨vs, g1, g2, g3⟩ := v2
          refine ⟨vs, g1, by simpa using g2, fun j c cs hj => ?_⟩
          rw [List.getElem?_map] at hj
          obtain ⟨z, hz, hzz⟩ := Option.map_eq_some_iff.1 hj
          obtain ⟨c', cs'⟩ := z
          simp at hzz
          obtain ⟨rfl, rfl⟩ := hzz
          obtain ⟨u, u1, u2⟩ := g3 j c' cs' hz
          refine ⟨u, u1, ?_⟩
          rcases u2 with ⟨u2, u3⟩ | ⟨u2, q', rfl, u4⟩
          · exact .inl ⟨u2, hagg _ _ u3⟩
          · exact .inr ⟨u2, _, rfl, hmap _ _ u4⟩
      · refine ⟨cells, n, p1, p2, by simpa using p3, p4, z2, fun j x hx => ?_⟩
        obtain ⟨v, v1, v2, v3⟩ := p5 0 (cs.map AV.p) j (.p x) rfl (by rw [List.getElem?_map, hx]; rfl)
        exact ⟨v, by simpa using v1, v2, Rep.weaken (fun j _ hj => hXo j hj) v3⟩
    refine wp_mono (h b _ _ _ _ _ hrel) fun e a' w' ⟨s', cs', hq, hr⟩ => ⟨s', hq, ?_⟩
    obtain ⟨k1, ksz, ρ', kinv, ktm, _, _, _⟩ := hr
    have ktm : TmRel (fun j => X j ∨ j = b) ρ' s' a' w' := ktm
    have kXo : ∀ j, Xo X ρ' s'.H j → Xo (fun j => X j ∨ j = b) ρ' s'.H j := fun j hj => by
      rcases hj with hj | hj
      · exact .inl (.inl hj)
      · exact .inr hj
    have kmap : ∀ x v, AV.rel ρ' s'.H (Xo (fun j => X j ∨ j = b) ρ' s'.H) w' x v → AV.rel ρ' s'.H (Xo X ρ' s'.H) w' x v := fun x v hx => by
      cases x with
      | p x => exact Rep.weaken (fun j _ hj => kXo j hj) hx
      | sl x r off len => exact hx
      | ptr x r i j => exact hx
      | junk => trivial
    refine ⟨k1, ksz, ρ', ⟨⟨kinv.keep.os, kinv.keep.tape, kinv.keep.output, kinv.keep.size, fun k hk hn => ?_⟩, fun x y o ho => objRel_map (kinv.objs x y o ho) rfl (fun _ _ _ => rfl) kmap, kinv.inj, fun x y o j c ho hj => ?_, fun j hj => kinv.bar j (.inl hj), kinv.self⟩, fun t x hx => ?_⟩
    · by_cases hkb : k = b
      · subst hkb
        exfalso
        rcases hold.1 with g | g
        · omega
        · exact hn g
      · exact kinv.keep.block k hk (fun hh => by
          rcases hh with hh | hh
          · exact hn hh
          · exact hkb hh)
    · obtain ⟨g1, g2⟩ := kinv.old x y o j c ho hj
      refine ⟨?_, fun hx => g2 (.inl hx)⟩
      rcases g1 with g | g | g
      · exact .inl g
      · exact .inr g
      · exact absurd (.inr g) g2
    · obtain ⟨v, v1, v2⟩ := ktm t x hx
      exact ⟨v, v1, TV.rel_map v2 kmap⟩
end Go.Proofs.YtobnpabndpmabaaGreat
namespace Go.Proofs.YtobnpabndpmabaaGreat
open Go.RowKit
theorem ext_grow (w : World) (q : Nat) (os : Array Obj) : Ext w (Sort.grow (w.drewN q) os) :=
  ⟨rfl, rfl, rfl, by show w.heap.size ≤ (w.heap ++ os).size; simp, fun k hk => by show (w.heap ++ os)[k]? = w.heap[k]?; rw [Array.getElem?_append_left hk]⟩
structure NItem where
  key : Int
  vals : List Int
  at_ : Option Addr
  cap : Nat
  deriving Inhabited
def NItem.val (it : NItem) : Value := .slice it.at_ it.vals.length it.cap
def NItem.agg (it : NItem) : Value := .agg #[.int .i64 it.key, .slice it.at_ it.vals.length it.cap]
def cmpIt (a b : NItem) : Int := cmpN a.key a.vals b.key b.vals
def eqIt (a b : NItem) : Bool := cmpIt a b == 0
structure ItemOk (w : World) (g : Nat) (it : NItem) : Prop where
  rd : RdI .i64 w it.at_ it.vals
  ne : ∀ p, it.at_ = some p → p.block ≠ g
  le : it.vals.length ≤ 9223372036854775807
theorem ItemOk.ext {w w' : World} {g : Nat} {it : NItem} (h : ItemOk w g it) (e : Ext w w') : ItemOk w' g it := ⟨h.rd.ext e, h.ne, h.le⟩
theorem RdI.setOther {k : IntKind} {w : World} {A : Option Addr} {zs : List Int} {g : Nat} (h : RdI k w A zs) (hne : ∀ p, A = some p → p.block ≠ g) (p : Addr) (hp : p.block = g) (v : Value) : RdI k (w.setCell p v) A zs := fun hn => by
  obtain ⟨b, off, rfl, hc⟩ := h hn
  refine ⟨b, off, rfl, fun i x hx => ?_⟩
  rw [World.cell?_setCell_other _ _ _ _ (fun e => by have := hne _ rfl; have e2 := congrArg Addr.block e; simp at e2 this; omega)]
  exact hc i x hx
theorem ItemOk.setCell {w : World} {g : Nat} {it : NItem} (h : ItemOk w g it) (p : Addr) (hp : p.block = g) (v : Value) : ItemOk (w.setCell p v) g it := ⟨h.rd.setOther h.ne p hp v, h.ne, h.le⟩
theorem compareIt_any (a b : NItem) (w : World) (g : Nat) (ha : ItemOk w g a) (hb : ItemOk w g b) :
    Calls Tryz.prog 32 #[a.agg, b.agg] w fun e w' => e = .returned (.int .i64 (cmpIt a b)) ∧ Ext w w' :=
  (compareByNorm_any a.key b.key a.at_ b.at_ a.cap b.cap a.vals b.vals w ha.rd hb.rd ha.le hb.le).mono fun _ _ ⟨he, q, os, hw⟩ => ⟨he, by rw [hw]; exact ext_grow w q os⟩
set_option maxRecDepth 100000 in
set_option maxHeartbeats 1000000 in
theorem sortEq_any (a b : NItem) (bx sx so : Nat) (w : World) (g : Nat) (ha : ItemOk w g a) (hb : ItemOk w g b) (h1 : w.cell? ⟨bx, 0, none⟩ = some (.pointer (some ⟨sx, so, none⟩))) (h2 : w.cell? ⟨sx, so + 1, none⟩ = some (.func (Fn.func 32) #[] #[])) :
    Calls Tryz.prog 76 #[a.agg, b.agg, .pointer (some ⟨bx, 0, none⟩)] w fun e w' => e = .returned (.bool (eqIt a b)) ∧ Ext w w' := by
  have HA := Lib.hid ha
  have HB := Lib.hid hb
  clear ha hb
  unfold NItem.agg
  go_enter Tryz.func76, Tryz.ntmps76
  go_wp2_with fail
  obtain ⟨c1, c2, c3, c4, he, hg⟩ := two_boxes w (.int .i64 a.key) (.slice a.at_ a.vals.length a.cap) (.int .i64 b.key) (.slice b.at_ b.vals.length b.cap) 67
  have h1' := he.cell h1
  have h2' := he.cell h2
  have HE := Lib.hid he
  clear he hg h1 h2
  generalize (w.alloc (.cells #[.int .i64 a.key, .slice a.at_ a.vals.length a.cap] 67)).alloc (.cells #[.int .i64 b.key, .slice b.at_ b.vals.length b.cap] 67) = w2 at *
  refine region_still_tail 6 (by kernel_rfl) (by kernel_rfl) ?_
  simp only [List.take_succ_cons, List.take_zero, List.drop_succ_cons, List.drop_zero]
  generalize w2.drew = w3 at *
  iterate 6 still_step
  refine wpStill_nil ?_
  have HC := Lib.hid (compareIt_any a b w3 g (HA.out.ext HE.out) (HB.out.ext HE.out))
  unfold NItem.agg at HC
  go_wp2_with fail
  refine HC.out.mono ?_
  rintro e w' ⟨rfl, he⟩
  have HE2 := Lib.hid (HE.out.trans he)
  clear he
  go_wp2_with fail
  go_ret
  exact ⟨rfl, HE2.out⟩
end Go.Proofs.YtobnpabndpmabaaGreat
