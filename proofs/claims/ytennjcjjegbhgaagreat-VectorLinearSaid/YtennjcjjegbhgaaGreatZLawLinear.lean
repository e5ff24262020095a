/-
  Proved: the statement VectorLinearSaid: for every input the law quadformlaw09.VectorLinear returns true, and each argument reads afterwards as it read before. No condition.
-/
import Derived.Test.YtennjcjjegbhgaaGreatP16
set_option linter.all false
namespace Go.Proofs.YtennjcjjegbhgaaGreat
theorem smF_mul (c : Int) (F : Nat → Int) : ∀ k, smF (fun p => c * F p) k = c * smF F k
  | 0 => by simp [smF]
  | k + 1 => by rw [smF, smF, smF_mul c F k]; grind
theorem smF_mulr (c : Int) (F : Nat → Int) (k : Nat) : smF (fun p => F p * c) k = smF F k * c := by
  rw [Int.mul_comm, ← smF_mul]; exact smF_congr k fun p _ => Int.mul_comm _ _
theorem smF_swap (F : Nat → Nat → Int) (m : Nat) : ∀ n, smF (fun i => smF (F i) m) n = smF (fun j => smF (fun i => F i j) n) m
  | 0 => by simp only [smF]; exact (smF_zero m).symm
  | n + 1 => by rw [smF, smF_swap F m n, ← smF_add]; rfl
theorem smF_bd {F : Nat → Int} {B : Int} : ∀ k, (∀ p, p < k → -B ≤ F p ∧ F p ≤ B) → -((k : Int) * B) ≤ smF F k ∧ smF F k ≤ (k : Int) * B
  | 0, _ => by simp [smF]
  | k + 1, h => by
    have ih := smF_bd k fun p hp => h p (by omega)
    have h1 := h k (by omega)
    have e : (((k + 1 : Nat) : Int)) * B = (k : Int) * B + B := by rw [Int.natCast_add, Int.add_mul]; simp
    rw [smF, e]; omega
def BF (n : Nat) (f : Nat → Nat → Int) (x y : Nat → Int) : Int := smF (fun i => x i * smF (fun j => f i j * y j) n) n
variable {n : Nat}
theorem BF_congr {f f' : Nat → Nat → Int} {x x' y y' : Nat → Int} (hf : ∀ i j, i < n → j < n → f i j = f' i j) (hx : ∀ i, i < n → x i = x' i) (hy : ∀ i, i < n → y i = y' i) : BF n f x y = BF n f' x' y' :=
  smF_congr n fun i hi => by rw [hx i hi, smF_congr n fun j hj => by rw [hf i j hi hj, hy j hj]]
theorem BF_addl (f : Nat → Nat → Int) (x x' y : Nat → Int) (c : Int) : BF n f (fun i => x i + c * x' i) y = BF n f x y + c * BF n f x' y := by
  unfold BF
  rw [← smF_mul, ← smF_add]; exact smF_congr n fun i _ => by grind
theorem BF_addr (f : Nat → Nat → Int) (x y y' : Nat → Int) (c : Int) : BF n f x (fun i => y i + c * y' i) = BF n f x y + c * BF n f x y' := by
  unfold BF
  rw [← smF_mul, ← smF_add]
  refine smF_congr n fun i _ => ?_
  rw [smF_congr n (G := fun j => f i j * y j + c * (f i j * y' j)) (fun j _ => by grind), smF_add, smF_mul]; grind
theorem BF_addf (f g : Nat → Nat → Int) (x y : Nat → Int) (a b : Int) : BF n (fun i j => a * f i j + b * g i j) x y = a * BF n f x y + b * BF n g x y := by
  unfold BF
  rw [← smF_mul, ← smF_mul, ← smF_add]
  refine smF_congr n fun i _ => ?_
  rw [smF_congr n (G := fun j => a * (f i j * y j) + b * (g i j * y j)) (fun j _ => by grind), smF_add, smF_mul, smF_mul]; grind
theorem BF_prod (u v x y : Nat → Int) : BF n (fun i j => u i * v j) x y = smF (fun i => x i * u i) n * smF (fun j => v j * y j) n := by
  unfold BF
  rw [← smF_mulr]
  refine smF_congr n fun i _ => ?_
  rw [smF_congr n (G := fun j => u i * (v j * y j)) (fun j _ => by grind), smF_mul]; grind
theorem BF_sym {f : Nat → Nat → Int} (hs : SymF f n) (x y : Nat → Int) : BF n f x y = BF n f y x := by
  unfold BF
  rw [smF_congr n (G := fun i => smF (fun j => x i * f i j * y j) n) (fun i _ => by rw [← smF_mul]; exact smF_congr n fun j _ => by grind),
    smF_congr n (F := fun i => y i * _) (G := fun i => smF (fun j => x j * f j i * y i) n) (fun i hi => by rw [← smF_mul]; exact smF_congr n fun j hj => by rw [hs i hi j hj]; grind)]
  exact smF_swap _ _ _
theorem BF_bd {f : Nat → Nat → Int} {x y : Nat → Int} {X F Y : Int} (hX : ∀ i, i < n → -X ≤ x i ∧ x i ≤ X) (hF : ∀ i j, i < n → j < n → -F ≤ f i j ∧ f i j ≤ F) (hY : ∀ i, i < n → -Y ≤ y i ∧ y i ≤ Y) (h0 : 0 ≤ X) (h1 : 0 ≤ F) (h2 : 0 ≤ Y) :
    -((n : Int) * (X * ((n : Int) * (F * Y)))) ≤ BF n f x y ∧ BF n f x y ≤ (n : Int) * (X * ((n : Int) * (F * Y))) := by
  have hm : ∀ {a b A B : Int}, -A ≤ a ∧ a ≤ A → -B ≤ b ∧ b ≤ B → 0 ≤ A → 0 ≤ B → -(A * B) ≤ a * b ∧ a * b ≤ A * B := fun {a b A B} ha hb hA hB => by
    have h : (a * b).natAbs ≤ (A * B).natAbs := by
      rw [Int.natAbs_mul, Int.natAbs_mul]; exact Nat.mul_le_mul (by omega) (by omega)
    have := Int.mul_nonneg hA hB
    omega
  refine smF_bd n fun i hi => hm (hX i hi) (smF_bd n fun j hj => hm (hF i j hi hj) (hY j hj) h1 h2) h0 ?_
  exact Int.mul_nonneg (by omega) (Int.mul_nonneg h1 h2)
theorem stage_pos {f : Nat → Nat → Int} (hs : SymF f n) (hp : ∀ k, k < n → 0 < dk f (k + 1)) (x : Nat → Int) : ∀ m k, m + k = n → 0 ≤ BF n (bk f k) x x ∧ (BF n (bk f k) x x = 0 → ∀ i, k ≤ i → i < n → x i = 0)
  | 0, k, h => by
    obtain rfl : k = n := by omega
    refine ⟨?_, fun _ i h1 h2 => by omega⟩
    have : BF k (bk f k) x x = 0 := by
      unfold BF
      rw [smF_congr k (G := fun _ => 0) (fun i hi => by rw [smF_congr k (G := fun _ => 0) (fun j _ => by rw [bk_span f hi, Int.zero_mul]), smF_zero, Int.mul_zero]), smF_zero]
    omega
  | m + 1, k, h => by
    obtain ⟨h1, h2⟩ := stage_pos hs hp x m (k + 1) (by omega)
    have hne : ∀ t, t < n → dk f (t + 1) ≠ 0 := fun t ht => by have := hp t ht; omega
    have hd : 0 < dk f k := dk_pos fun t ht => hp t (by omega)
    have hd1 := hp k (by omega)
    have key : dk f k * BF n (bk f (k + 1)) x x = dk f (k + 1) * BF n (bk f k) x x - smF (fun j => bk f k k j * x j) n * smF (fun j => bk f k k j * x j) n := by
      have e0 : dk f k * BF n (bk f (k + 1)) x x = BF n (fun i j => dk f k * bk f (k + 1) i j + 0 * bk f k i j) x x := by rw [BF_addf]; omega
      rw [e0, BF_congr (f' := fun i j => dk f (k + 1) * bk f k i j + (-1) * (bk f k k i * bk f k k j)) (fun i j hi hj => by
        have := sylv f k (fun t ht => hne t (by omega)) i j
        have e := bk_sym hs k (by omega) (fun t ht => hne t (by omega)) i k hi (by omega)
        rw [e] at this
        omega) (fun _ _ => rfl) (fun _ _ => rfl), BF_addf, BF_prod, smF_congr n (F := fun i => x i * bk f k k i) (G := fun j => bk f k k j * x j) (fun i _ => Int.mul_comm _ _)]
      omega
    have hsq : 0 ≤ smF (fun j => bk f k k j * x j) n * smF (fun j => bk f k k j * x j) n := by
      rcases Int.le_total 0 (smF (fun j => bk f k k j * x j) n) with h | h
      · exact Int.mul_nonneg h h
      · exact Int.mul_nonneg_of_nonpos_of_nonpos h h
    have hpr := Int.mul_nonneg (Int.le_of_lt hd) h1
    have hge : 0 ≤ dk f (k + 1) * BF n (bk f k) x x := by omega
    refine ⟨?_, fun hz => ?_⟩
    · rcases Int.lt_or_le (BF n (bk f k) x x) 0 with hl | hl
      · have := Int.mul_neg_of_pos_of_neg hd1 hl
        omega
      · exact hl
    · rw [hz, Int.mul_zero] at key
      have z1 : dk f k * BF n (bk f (k + 1)) x x = 0 := by omega
      have z2 : smF (fun j => bk f k k j * x j) n * smF (fun j => bk f k k j * x j) n = 0 := by omega
      have z3 : BF n (bk f (k + 1)) x x = 0 := by
        rcases Int.mul_eq_zero.1 z1 with h | h
        · omega
        · exact h
      have z4 : smF (fun j => bk f k k j * x j) n = 0 := by
        rcases Int.mul_eq_zero.1 z2 with h | h <;> exact h
      have hx := h2 z3
      rw [smF_one (a := k) (by omega) (fun p hpn hpk => by
        by_cases hlt : p < k
        · rw [bk_col hs hne (by omega) hlt (by omega), Int.zero_mul]
        · rw [hx p (by omega) hpn, Int.mul_zero])] at z4
      rw [dk_succ] at hd1
      intro i hi hin
      by_cases e : i = k
      · subst e
        rcases Int.mul_eq_zero.1 z4 with h | h
        · omega
        · exact h
      · exact hx i (by omega) hin
theorem BF_pos {f : Nat → Nat → Int} (hr : RedR f n) (x : Nat → Int) : 0 ≤ BF n f x x ∧ (BF n f x x = 0 ↔ ∀ i, i < n → x i = 0) := by
  have h := stage_pos hr.1 hr.2.1 x n 0 rfl
  have e : BF n (bk f 0) x x = BF n f x x := BF_congr (fun i j _ _ => bk_zero f i j) (fun _ _ => rfl) (fun _ _ => rfl)
  rw [e] at h
  refine ⟨h.1, fun hz i hi => h.2 hz i (by omega) hi, fun h0 => ?_⟩
  unfold BF
  rw [smF_congr n (G := fun _ => 0) (fun i hi => by rw [h0 i hi, Int.zero_mul]), smF_zero]
theorem schwarz {f : Nat → Nat → Int} (hr : RedR f n) (x y : Nat → Int) : BF n f x y * BF n f x y ≤ BF n f x x * BF n f y y := by
  have hs := BF_sym hr.1 x y
  obtain ⟨h1, h2⟩ := BF_pos hr y
  obtain ⟨q, hq⟩ : ∃ q, q = BF n f x y := ⟨_, rfl⟩
  obtain ⟨o, ho⟩ : ∃ o, o = BF n f y y := ⟨_, rfl⟩
  obtain ⟨N, hN⟩ : ∃ N, N = BF n f x x := ⟨_, rfl⟩
  have hpos := (BF_pos hr (fun i => (0 + o * x i) + (-q) * y i)).1
  have e : BF n f (fun i => (0 + o * x i) + (-q) * y i) (fun i => (0 + o * x i) + (-q) * y i) = o * (o * N - q * q) := by
    have ez : ∀ u, BF n f (fun _ => 0) u = 0 := fun u => by
      unfold BF; rw [smF_congr n (G := fun _ => 0) (fun i _ => Int.zero_mul _), smF_zero]
    have ez' : ∀ u, BF n f u (fun _ => 0) = 0 := fun u => by rw [BF_sym hr.1, ez]
    rw [BF_addl f (fun i => 0 + o * x i) y, BF_addr f (fun i => 0 + o * x i) (fun i => 0 + o * x i) y, BF_addr f y (fun i => 0 + o * x i) y,
      BF_addl f (fun _ => 0) x, BF_addl f (fun _ => 0) x, BF_addr f x (fun _ => 0) x, BF_addr f y (fun _ => 0) x, ez, ez, ez', ez', ← hs, ← hq, ← ho, ← hN]
    grind
  rw [e] at hpos
  rw [← hq, ← ho, ← hN]
  rcases Int.lt_or_le 0 o with h | h
  · have : 0 ≤ o * N - q * q := by
      rcases Int.lt_or_le (o * N - q * q) 0 with hl | hl
      · have := Int.mul_neg_of_pos_of_neg h hl
        omega
      · exact hl
    have : o * N = N * o := Int.mul_comm _ _
    omega
  · have o0 : o = 0 := by omega
    have hy := h2.1 (ho ▸ o0)
    have q0 : q = 0 := by
      rw [hq, hs]; unfold BF
      rw [smF_congr n (G := fun _ => 0) (fun i hi => by rw [hy i hi, Int.zero_mul]), smF_zero]
    rw [o0, q0]; omega
theorem InB_row {x : Nat → Int} {B : Int} (hB : B ≤ 1099511627776) (h : ∀ i, i < n → -B ≤ x i ∧ x i ≤ B) : InB (rowF n x) = true := by
  refine List.all_eq_true.2 fun z hz => ?_
  obtain ⟨i, hi, rfl⟩ := List.mem_map.1 hz
  have := h i (List.mem_range.1 hi)
  simp; omega
theorem inn_form {h : Nat → Nat → Int} (hn1 : 1 ≤ n) (hn : n ≤ 8) (hr : RedR h n) {x y : Nat → Int} (hx : ∀ i, i < n → -65536 ≤ x i ∧ x i ≤ 65536) (hy : ∀ i, i < n → -65536 ≤ y i ∧ y i ≤ 65536) :
    innT (mat n n h) (rowF n x) (rowF n y) = tvI (BF n h x y) true ∧ -72057594037927936 ≤ BF n h x y ∧ BF n h x y ≤ 72057594037927936 := by
  have hM : isReducedM (mat n n h) = true := (isReducedM_iff _).2 ((RedP_mat hn1).2 ⟨rfl, hn, hr⟩)
  have iy := InB_row (B := 65536) (by omega) hy
  have fx : FitB (mat n n h).length (rowF n x) = true := by rw [mat_len]; exact FitB_iff.2 ⟨rowF_len _ _, InB_row (B := 65536) (by omega) hx⟩
  have fy : FitB (mat n n h).length (rowF n y) = true := by rw [mat_len]; exact FitB_iff.2 ⟨rowF_len _ _, iy⟩
  have hv : validM (mat n n h) (rowF n x) = true := by unfold validM; rw [hM, fx]; rfl
  have e : accZ (rowF n x) (applyM (mat n n h) (rowF n y)) (rowF n x).length = BF n h x y := by
    rw [applyM_red hM iy, rowF_len, apZ, accZ_sum _ _ n (Nat.le_refl _)]
    exact smF_congr n fun i _ => by rw [accZ_sum _ _ n (Nat.le_refl _)]
  have hbd := BF_bd (f := h) (x := x) (y := y) (X := 65536) (F := 262144) (Y := 65536) hx (fun i j hi hj => by have := ent_small hn1 hn hr i hi j hj; omega) hy (by omega) (by omega) (by omega)
  have hle : (n : Int) * (65536 * ((n : Int) * (262144 * 65536))) ≤ 72057594037927936 := by
    have h1 : n = 1 ∨ n = 2 ∨ n = 3 ∨ n = 4 ∨ n = 5 ∨ n = 6 ∨ n = 7 ∨ n = 8 := by omega
    clear hbd e hv fx fy iy hM hx hy hr hn hn1
    rcases h1 with h1 | h1 | h1 | h1 | h1 | h1 | h1 | h1 <;> rw [h1] <;> decide
  refine ⟨?_, by omega, by omega⟩
  unfold innT
  rw [if_pos ⟨hv, fy⟩, e]
  unfold wiT
  rw [if_pos (by omega)]
end Go.Proofs.YtennjcjjegbhgaaGreat
namespace Go.Proofs.YtennjcjjegbhgaaGreat
open Go.RowKit
def cont (l : List Int) : Nat := l.foldl (fun d c => Nat.gcd d c.natAbs) 0
theorem cont_snoc (l : List Int) (c : Int) : cont (l ++ [c]) = Nat.gcd (cont l) c.natAbs := by simp [cont]
theorem cont_zero (l : List Int) : cont l = 0 ↔ ∀ c ∈ l, c = 0 := by
  have : ∀ (l : List Int) (d : Nat), l.foldl (fun d c => Nat.gcd d c.natAbs) d = 0 ↔ d = 0 ∧ ∀ c ∈ l, c = 0 := by
    intro l
    induction l with
    | nil => simp
    | cons a l ih =>
      intro d
      rw [List.foldl_cons, ih, Nat.gcd_eq_zero_iff, Int.natAbs_eq_zero]
      simp [and_assoc]
  rw [cont, this]; simp
theorem gcd_bd {a b B : Nat} (ha : a ≤ B) (hb : b ≤ B) : Nat.gcd a b ≤ B := by
  rcases Nat.eq_zero_or_pos a with h | h
  · rw [h, Nat.gcd_zero_left]; exact hb
  · exact Nat.le_trans (Nat.gcd_le_left _ h) ha
theorem cont_bd {l : List Int} (h : ∀ z ∈ l, I64 z) : cont l ≤ 9223372036854775808 := by
  have : ∀ (l : List Int) (d : Nat), d ≤ 9223372036854775808 → (∀ z ∈ l, I64 z) → l.foldl (fun d c => Nat.gcd d c.natAbs) d ≤ 9223372036854775808 := by
    intro l
    induction l with
    | nil => intro d hd _; exact hd
    | cons a l ih =>
      intro d hd h
      rw [List.foldl_cons]
      refine ih _ (gcd_bd hd ?_) fun z hz => h z (by simp [hz])
      have := h a (by simp)
      have h1 := this.1; have h2 := this.2
      omega
  exact this l 0 (by omega) h
structure EuG (g : Nat) where
  d : Nat
  a : Nat
  hg : Nat.gcd d a = g
  hd : d ≤ 9223372036854775808
  ha : a ≤ 9223372036854775808
set_option maxRecDepth 100000 in
set_option maxHeartbeats 16000000 in
theorem Content_C (x : List Int) (hx : ∀ z ∈ x, I64 z) (hl : x.length ≤ 1000000) : CallC Tryz.prog 25 [sl1 x] ⟨[], .raw (.int .u64 (cont x : Int))⟩ := by
  refine callC_of Tryz.func25 rfl (by kernel_rfl) ?_; rw [Tryz.ntmps25]
  (refine WpA_sreg [] [] (by simp) fun K hK => ?_; simp (disch := omega) only [kc, prep1, sl1, List.replicate, ofConst, Value.oneCell']; (with_reducible refine hK _ ?_))
  (refine WpA_sreg [] [] (by simp) fun K hK => ?_; simp (disch := omega) only [kc, prep1, ofConst, Value.oneCell']; (with_reducible refine hK _ ?_))
  (refine WpA_seq (WpA_sreg [] [] (by simp) fun K hK => ?_); simp (disch := omega) only [kc, prep1, Nat.reduceAdd, opS_len, effR, ty_slice23, ls_len, ofConst, Value.oneCell']; (with_reducible refine hK _ ?_))
  refine WpA_forb (G := FiG x.length) (fun g => ⟨[jk, jk, jk, .raw (.int .u64 (cont (x.take g.i) : Int)), jk, jk, jk, sl1 x, .raw (.int .i64 (x.length : Int)), .raw (.int .i64 (g.i : Int)), jk, jk, jk, jk, jk, jk, jk, jk, jk, jk, jk, jk, jk, jk, jk, jk, jk], Hm []⟩) (fun g => x.length - g.i) ⟨0, by omega⟩ ?_ ?_
  · refine Weak_sub trivial ?_
    simp [wkL, okTV, okAV, cont]
  · rintro ⟨i, hi⟩
    simp only
    by_cases hm : i < x.length
    · obtain ⟨z, hz⟩ := getElem?_of_lt hm
      obtain ⟨z1, z2⟩ := hx z (List.mem_of_getElem? hz)
      have hbd := cont_bd (l := x.take i) fun z hz => hx z (List.mem_of_mem_take hz)
      have ex : cont (x.take (i + 1)) = Nat.gcd (cont (x.take i)) z.natAbs := by
        rw [List.take_add_one, hz, ← cont_snoc]; rfl
      generalize cont (x.take i) = d0 at *
      (refine WpA_sreg [] [] (by simp) fun K hK => ?_; simp (disch := omega) only [kc, prep1, sl1, Hm, effM, evBin, decT]; (with_reducible refine hK _ ?_))
      refine WpA_seq (WpA_cond rfl (fun _ => WpA_skip ?_) (fun h => by simp at h <;> omega))
      refine WpA_seq (WpA_block ?_)
      (refine WpA_sreg [] [] (by simp) fun K hK => ?_; simp (disch := omega) only [kc, prep1, Nat.reduceAdd, opS_indexAddr, effR, natOf_pos, ty_slice23, ls_get, hz, fI, ty_sz2, packT, ty_agg2]; (with_reducible refine hK _ ?_))
      (refine WpA_sreg [] [] (by simp) fun K hK => ?_; simp (disch := omega) only [kc, prep1, Nat.reduceAdd, opS_conv, effM, Tryz.underlying2, ty_int43]; (with_reducible refine hK _ ?_))
      refine WpA_seq (WpA_cut (S := ⟨[jk, jk, jk, .raw (.int .u64 (d0 : Int)), jk, jk, .raw (.int .u64 (z.natAbs : Int)), sl1 x, .raw (.int .i64 (x.length : Int)), .raw (.int .i64 (i : Int)), jk, jk, jk, jk, jk, jk, jk, jk, jk, jk, jk, jk, jk, jk, jk, jk, jk], Hm []⟩) ?_ ?_)
      · by_cases hn : z < 0
        · have e1 : IntKind.u64.wrap (0 - IntKind.u64.wrap z) = ((z.natAbs : Nat) : Int) := by rw [IntKind.wrap_u64, IntKind.wrap_u64]; omega
          (refine WpA_sreg [] [] (by simp) fun K hK => ?_; simp (disch := omega) only [kc, prep1, effM, ofConst, Value.oneCell', evBin, decT]; (with_reducible refine hK _ ?_))
          refine WpA_cond rfl (fun _ => ?_) (fun h => by simp at h <;> omega)
          ((refine WpA_lreg [] [] (by simp) fun K hK => ?_); simp (disch := omega) only [kc, prep1, Nat.reduceAdd, opS_un, effM, evUn, e1]; (with_reducible refine hK _ ?_))
          refine Weak_sub trivial ?_
          simp [wkL, okTV, okAV]
        · have e1 : ((z.natAbs : Nat) : Int) = z := by omega
          (refine WpA_sreg [] [] (by simp) fun K hK => ?_; simp (disch := omega) only [kc, prep1, wrapU, effM, ofConst, Value.oneCell', evBin, decF]; (with_reducible refine hK _ ?_))
          refine WpA_cond rfl (fun h => by simp at h <;> omega) (fun _ => WpA_skip ?_)
          show Weak _ _
          rw [e1]
          refine Weak_sub trivial ?_
          simp [wkL, okTV, okAV]
      · refine WpA_forb (G := EuG (Nat.gcd d0 z.natAbs)) (fun g => ⟨[jk, jk, jk, .raw (.int .u64 (g.d : Int)), jk, jk, .raw (.int .u64 (g.a : Int)), sl1 x, .raw (.int .i64 (x.length : Int)), .raw (.int .i64 (i : Int)), jk, jk, jk, jk, jk, jk, jk, jk, jk, jk, jk, jk, jk, jk, jk, jk, jk], Hm []⟩) (fun g => g.a) ⟨d0, z.natAbs, rfl, hbd, by omega⟩ (Weak.refl _) ?_
        rintro ⟨d, a, hg, hd, ha⟩
        simp only
        by_cases h0 : a = 0
        · subst h0
          rw [Nat.gcd_zero_right] at hg
          (refine WpA_seq (WpA_sreg [] [] (by simp) fun K hK => ?_); simp (disch := omega) only [kc, prep1, sl1, Hm, effM, ofConst, Value.oneCell', evBin, decT]; (with_reducible refine hK _ ?_))
          refine WpA_cond rfl (fun h => by simp at h <;> omega) (fun _ => WpA_exit ?_)
          show WpA _ _ _ _
          ((refine WpA_lreg [] [] (by simp) fun K hK => ?_); simp (disch := omega) only [kc, prep1, effM, ofConst, Value.oneCell', evBin, wrapI]; (with_reducible refine hK _ ?_))
          refine ⟨⟨i + 1, by omega⟩, by simp only; omega, ?_⟩
          simp only
          rw [ex, ← hg]
          refine Weak_sub trivial ?_
          simp [wkL, okTV, okAV]
        · have e2 : Int.tmod (d : Int) (a : Int) = ((d % a : Nat) : Int) := (Int.ofNat_tmod d a).symm
          have e3 := Nat.mod_lt d (show 0 < a by omega)
          (refine WpA_seq (WpA_sreg [] [] (by simp) fun K hK => ?_); simp (disch := omega) only [kc, prep1, sl1, Hm, effM, ofConst, Value.oneCell', evBin, decF, Bool.not_false]; (with_reducible refine hK _ ?_))
          refine WpA_cond rfl (fun _ => WpA_skip ?_) (fun h => by simp at h <;> omega)
          show WpA _ _ _ _
          refine WpA_block ?_
          ((refine WpA_ldraw mixedA [] [] (by kernel_rfl) (by simp) fun K hK => ?_); simp (disch := omega) only [kc, prep1, Nat.reduceAdd, effM, evBin, e2, ifT]; (with_reducible refine hK _ ?_))
          refine ⟨⟨a, d % a, ?_, ha, by omega⟩, by simp only; omega, Weak_sub trivial ?_⟩
          · rw [← hg, Nat.gcd_comm d a, Nat.gcd_rec a d, Nat.gcd_comm]
          · simp [wkL, okTV, okAV]
    · have hin : i = x.length := by omega
      subst hin
      (refine WpA_sreg [] [] (by simp) fun K hK => ?_; simp (disch := omega) only [kc, prep1, sl1, Hm, effM, evBin, decF]; (with_reducible refine hK _ ?_))
      refine WpA_seq (WpA_cond rfl (fun h => by simp at h <;> omega) (fun _ => WpA_exit ?_))
      show WpA _ _ _ _
      rw [List.take_of_length_le (Nat.le_refl _)]
      (refine WpA_sreg [] [] (by simp) fun K hK => ?_; simp (disch := omega) only [kc, prep1]; (with_reducible refine hK _ ?_))
      (refine WpA_ret ⟨.inr rfl, ret_now rfl ?_ rfl⟩; simp (disch := omega) only [resA, Tryz.results25, resOne, List.getElem?_cons_succ, List.getElem?_cons_zero])
end Go.Proofs.YtennjcjjegbhgaaGreat
namespace Go.Proofs.YtennjcjjegbhgaaGreat
open Go.RowKit
def ptF (F : Nat → Int) (i : Nat) : Nat → Int := fun j => if j < i then F j else 0
theorem ptF_step (F : Nat → Int) (i j : Nat) : (if j = i then F i else ptF F i j) = ptF F (i + 1) j := by
  unfold ptF
  by_cases h : j = i
  · subst h; simp
  · have : j < i + 1 ↔ j < i := by omega
    simp [h, this]
theorem pt_row0 (n : Nat) (F : Nat → Int) : List.replicate n [AV.p (.raw (.int .i64 0))] = lc fI (rowF n (ptF F 0)) := by
  apply List.ext_getElem?
  intro j
  rw [List.getElem?_replicate, lc_get]
  by_cases hj : j < n
  · rw [if_pos hj, rowF_get _ hj]; simp [ptF, fI]
  · rw [if_neg hj, List.getElem?_eq_none (by rw [rowF_len]; omega)]; rfl
theorem vcF_bd {L : List Int} (hL : I8 L) (i : Nat) : -128 ≤ vcF L i ∧ vcF L i ≤ 127 := by
  unfold vcF
  rw [List.getD_eq_getElem?_getD]
  cases h : L[adv L 0 i]? with
  | none => simp
  | some z => exact hL z (List.mem_of_getElem? h)
theorem mul_bd8 {c z : Int} (hc : -128 ≤ c ∧ c ≤ 127) (hz : -128 ≤ z ∧ z ≤ 127) : -16384 ≤ c * z ∧ c * z ≤ 16384 := by
  have h : (c * z).natAbs ≤ 128 * 128 := by rw [Int.natAbs_mul]; exact Nat.mul_le_mul (by omega) (by omega)
  omega
theorem cmpZ_le0 {a b : Int} (h : a ≤ b) : cmpZ a b ≤ 0 := by unfold cmpZ; split <;> (try split) <;> omega
set_option maxRecDepth 100000 in
set_option maxHeartbeats 16000000 in
theorem lawLinear_C (dim kind : Nat) (L B J K W : List Int) (c : Int) (hL : I8 L) (hdim : dim ≤ 255) (hkind : kind ≤ 255) (hJ : I8 J) (hK : I8 K) (hW : I8 W) (hc : -128 ≤ c ∧ c ≤ 127) :
    CallC Tryz.prog 9 [tL dim kind L B, sl8 J, sl8 K, sl8 W, .raw (.int .i8 c)] ⟨[], .raw (.bool true)⟩ := by
  obtain ⟨n, hn⟩ : ∃ n, n = 1 + dim % 5 := ⟨_, rfl⟩
  obtain ⟨h, hr, cF⟩ := Form_C dim kind L B 5 n hL hdim hkind (by omega) (by omega) hn
  rw [show ((5 : Nat) : Int) = 5 from rfl] at cF
  have hn1 : 1 ≤ n := by omega
  have hn5 : n ≤ 5 := by omega
  have hM := MI_red (by omega) (by omega) hr
  have hml := mat_len n n h
  have v1 := Vector_C J n hJ (by omega)
  have v2 := Vector_C K n hK (by omega)
  have v3 := Vector_C W n hW (by omega)
  have ba := vcF_bd hJ
  have bb := vcF_bd hK
  have bw := vcF_bd hW
  obtain ⟨F, hF⟩ : ∃ F : Nat → Int, F = fun i => vcF J i + c * vcF K i := ⟨_, rfl⟩
  have bF : ∀ i, -65536 ≤ F i ∧ F i ≤ 65536 := fun i => by
    have := mul_bd8 hc (bb i); have := ba i; rw [hF]; simp only; omega
  obtain ⟨i1, p1, p2⟩ := inn_form (x := F) (y := vcF W) hn1 (by omega) hr (fun i _ => bF i) (fun i _ => by have := bw i; omega)
  obtain ⟨i2, q1, q2⟩ := inn_form (x := vcF J) (y := vcF W) hn1 (by omega) hr (fun i _ => by have := ba i; omega) (fun i _ => by have := bw i; omega)
  obtain ⟨i3, r1, r2⟩ := inn_form (x := vcF W) (y := vcF K) hn1 (by omega) hr (fun i _ => by have := bw i; omega) (fun i _ => by have := bb i; omega)
  obtain ⟨i4, n1, n2⟩ := inn_form (x := vcF J) (y := vcF J) hn1 (by omega) hr (fun i _ => by have := ba i; omega) (fun i _ => by have := ba i; omega)
  obtain ⟨i5, o1, o2⟩ := inn_form (x := vcF W) (y := vcF W) hn1 (by omega) hr (fun i _ => by have := bw i; omega) (fun i _ => by have := bw i; omega)
  have c1 := pInner_C (mat n n h) (rowF n F) (rowF n (vcF W))
  have c2 := pInner_C (mat n n h) (rowF n (vcF J)) (rowF n (vcF W))
  have c3 := pInner_C (mat n n h) (rowF n (vcF W)) (rowF n (vcF K))
  have c4 := pNorm_C (mat n n h) (rowF n (vcF J))
  have c5 := pNorm_C (mat n n h) (rowF n (vcF W))
  rw [i1] at c1; rw [i2] at c2; rw [i3] at c3; rw [i4] at c4; rw [i5] at c5
  clear i1 i2 i3 i4 i5
  have e1 : c * BF n h (vcF W) (vcF K) = BF n h F (vcF W) - BF n h (vcF J) (vcF W) := by
    rw [hF, BF_addl, BF_sym hr.1 (vcF W) (vcF K)]; omega
  have cc := Content_C (rowF n (vcF J)) (fun z hz => by
    obtain ⟨i, _, rfl⟩ := List.mem_map.1 hz
    have := ba i
    exact ⟨by omega, by omega⟩) (by rw [rowF_len]; omega)
  have hz : (cont (rowF n (vcF J)) = 0 ∧ BF n h (vcF J) (vcF J) = 0) ∨ (0 < cont (rowF n (vcF J)) ∧ 1 ≤ BF n h (vcF J) (vcF J)) := by
    obtain ⟨h1, h2⟩ := BF_pos hr (vcF J)
    have h3 : cont (rowF n (vcF J)) = 0 ↔ ∀ i, i < n → vcF J i = 0 := by
      rw [cont_zero]
      constructor
      · intro h i hi; exact h _ (List.mem_map.2 ⟨i, List.mem_range.2 hi, rfl⟩)
      · intro h z hz
        obtain ⟨i, hi, rfl⟩ := List.mem_map.1 hz
        exact h i (List.mem_range.1 hi)
    rw [← h3] at h2
    omega
  have hsch := cmpZ_le0 (schwarz hr (vcF J) (vcF W))
  have I : ∀ {z : Int}, -72057594037927936 ≤ z → z ≤ 72057594037927936 → I64 z := fun h1 h2 => ⟨by omega, by omega⟩
  have s1 := small_C (BF n h (vcF J) (vcF W)) (by omega) (by omega)
  have s2 := small_C (BF n h (vcF J) (vcF J)) (by omega) (by omega)
  have s3 := small_C (BF n h (vcF W) (vcF W)) (by omega) (by omega)
  have m1 := Mul_C (BF n h (vcF J) (vcF W)) (BF n h (vcF J) (vcF W)) ((I q1 q2).sz (by omega)) ((I q1 q2).sz (by omega))
  have m2 := Mul_C (BF n h (vcF J) (vcF J)) (BF n h (vcF W) (vcF W)) ((I n1 n2).sz (by omega)) ((I o1 o2).sz (by omega))
  have cm := Cmp_C (BF n h (vcF J) (vcF W) * BF n h (vcF J) (vcF W)) (BF n h (vcF J) (vcF J) * BF n h (vcF W) (vcF W)) ((Sz.mul ((I q1 q2).sz (k := 2) (by omega)) ((I q1 q2).sz (k := 2) (by omega))).mono (by omega))
    ((Sz.mul ((I n1 n2).sz (k := 2) (by omega)) ((I o1 o2).sz (k := 2) (by omega))).mono (by omega))
  generalize cmpZ _ _ = tc at cm hsch
  generalize BF n h F (vcF W) = p at *
  generalize BF n h (vcF J) (vcF W) = q at *
  generalize BF n h (vcF W) (vcF K) = r at *
  generalize BF n h (vcF J) (vcF J) = nn at *
  generalize BF n h (vcF W) (vcF W) = oo at *
  generalize cont (rowF n (vcF J)) = ct at *
  generalize mat n n h = M at *
  have hw : ∀ i, F i = vcF J i + c * vcF K i := fun i => by rw [hF]
  generalize vcF J = va at *
  generalize vcF K = vb at *
  generalize vcF W = vw at *
  clear hF
  have c9 := awake_C
  refine callC_of Tryz.func9 rfl (by kernel_rfl) ?_; rw [Tryz.ntmps9]
  (refine WpA_sreg [] [] (by simp) fun K hK => ?_; simp (disch := omega) only [kc, prep1, tL, sl8, Nat.reduceAdd, List.replicate, opS_box, newS, effA, cellsOf, isPure, ifT, ofConst, Value.oneCell']; (with_reducible refine hK _ ?_))
  (refine WpA_sreg [⟨1, _, _, _, cF⟩] [] (by simp) fun K hK => ?_; simp (disch := omega) only [kc, tL, slI, CItem.a, prep1, Nat.reduceAdd, effR, updH, packT, ty_sz26, ty_agg26, Nat.le_refl, opS_call, newS, effA, List.find?_cons, evAll, ofConst, Value.oneCell', norm, CallRes.plain, rawTV, rawAV, normOk, isPure, noRefTV, noRefAV, renTV, renAV]; (with_reducible refine hK _ ?_))
  (refine WpA_sreg [⟨3, _, _, _, v1⟩, ⟨7, _, _, _, v2⟩, ⟨11, _, _, _, v3⟩] [] (by simp) fun K hK => ?_; simp (disch := omega) only [kc, sl8, CItem.a, prep1, Nat.reduceAdd, opS_len, effR, ty_slice22, ls_len, hml, opS_call, newS, effA, List.find?_cons, evAll, norm, CallRes.plain, List.isEmpty_cons, rawTV, rawAV, normOk, Bool.not_false, noRefTV, noRefAV, Bool.or_false, renTV, renAV, renO, lc_ren, updH, Nat.reduceEqDiff, Nat.reduceBEq, ifF]; (with_reducible refine hK _ ?_))
  refine WpA.weak ((Weak_fz 33 (fzOk_one rfl)).trans ((Weak_fz 37 (fzOk_one rfl)).trans ((Weak_fz 41 (fzOk_one rfl)).trans (Weak_sub (tm := [jk, jk, jk, jk, .raw (.int .i8 c), jk, jk, jk, jk, jk, jk, slI M, sl1 (rowF n va), sl1 (rowF n vb), sl1 (rowF n vw), jk, jk, jk, jk, jk, jk, jk, jk, jk, jk, jk, jk, jk, jk, jk, jk, jk, jk, jk, jk, jk, jk, jk, jk, jk, jk, jk, jk, jk, jk, jk, jk, jk, jk, jk, jk, jk, jk, jk, jk, jk, jk, jk, jk, jk, jk, jk, jk, jk, jk, jk, jk, jk, jk, jk, jk, jk, jk, jk, jk, jk, jk, jk, jk, jk, jk, jk, jk, jk, jk, jk, jk, jk, jk, jk, jk, jk, jk, jk, jk, jk, jk, jk, jk, jk, jk, jk, jk, jk, jk, jk, jk, jk, jk, jk, jk, jk, jk, jk, jk, jk, jk, jk, jk, jk, jk, jk, jk, jk, jk, jk, jk, jk, jk, jk, jk, jk, jk, jk, jk, jk, jk, jk, jk, jk, jk, jk, jk, jk]) (l := []) trivial (by simp [wkL, okTV, okAV, fzTV, fzAV, updH, lc_take, lc_cellF, List.take_of_length_le, rowF_len]))))) ?_
  (refine WpA_sreg [] [] (by simp) fun K hK => ?_; simp (disch := omega) only [kc, prep1, Nat.reduceAdd, slI, sl1, Hm, opS_len, effR, ty_slice22, ls_len, hml, opS_makeSlice, newS, effA, ty_slice23, ty_zero2, ty_sz2, ty_by2, Int.natCast_nonneg, Value.oneCell', and_true, ifT]; (with_reducible refine hK _ ?_))
  (refine WpA_seq (WpA_sreg [] [] (by simp) fun K hK => ?_); simp (disch := omega) only [kc, prep1, Nat.reduceAdd, opS_len, effR, ty_slice23, ofConst, Value.oneCell']; (with_reducible refine hK _ ?_))
  refine WpA_forb (G := FiG n) (fun g => ⟨[jk, jk, jk, jk, .raw (.int .i8 c), jk, jk, jk, jk, jk, jk, slI M, sl1 (rowF n va), sl1 (rowF n vb), sl1 (rowF n vw), .one (.sl 44 0 0 n), jk, jk, jk, jk, jk, jk, jk, jk, jk, jk, jk, jk, jk, jk, jk, jk, jk, jk, jk, jk, jk, jk, jk, jk, jk, jk, jk, jk, jk, jk, .raw (.int .i64 (n : Int)), .raw (.int .i64 (g.i : Int)), jk, jk, jk, jk, jk, jk, jk, jk, jk, jk, jk, jk, jk, jk, jk, jk, jk, jk, jk, jk, jk, jk, jk, jk, jk, jk, jk, jk, jk, jk, jk, jk, jk, jk, jk, jk, jk, jk, jk, jk, jk, jk, jk, jk, jk, jk, jk, jk, jk, jk, jk, jk, jk, jk, jk, jk, jk, jk, jk, jk, jk, jk, jk, jk, jk, jk, jk, jk, jk, jk, jk, jk, jk, jk, jk, jk, jk, jk, jk, jk, jk, jk, jk, jk, jk, jk, jk, jk, jk, jk, jk, jk, jk, jk, jk, jk], Hm [(44, [⟨2, 1, lc fI (rowF n (ptF F g.i))⟩])]⟩) (fun g => n - g.i) ⟨0, by omega⟩ ?_ ?_
  · refine Weak_sub ⟨?_, trivial⟩ ?_
    · show [_] = [_]
      rw [← pt_row0 n F]
    · simp [wkL, okTV, okAV]
  · rintro ⟨i, hi⟩
    simp only
    by_cases hm : i < n
    · have ga := rowF_get va hm
      have gb := rowF_get vb hm
      have gs := rowF_get (ptF F i) hm
      have hcb := mul_bd8 hc (bb i)
      have hai := ba i
      have hbi := bb i
      have hwi := (hw i).symm
      (refine WpA_sreg [] [] (by simp) fun K hK => ?_; simp (disch := omega) only [kc, prep1, slI, sl1, Hm, effM, evBin, decT]; (with_reducible refine hK _ ?_))
      refine WpA_seq (WpA_cond rfl (fun _ => WpA_skip ?_) (fun h => by simp at h <;> omega))
      refine WpA_seq (WpA_block ?_)
      (refine WpA_sreg [] [] (by simp) fun K hK => ?_; simp (disch := omega) only [kc, prep1]; (with_reducible refine hK _ ?_))
      ((refine WpA_ldraw mixedA [] [] (by kernel_rfl) (by simp) fun K hK => ?_); simp (disch := omega) only [kc, prep1, Nat.reduceAdd, opS_indexAddr, effR, natOf_pos, ty_slice23, ls_get, ga, fI, ty_sz2, packT, ty_agg2, opS_conv, effM, Tryz.underlying47, ty_int2, wrapI, gb, evBin, hwi, ifT, opS_store, wrS, effD, lc_get, gs, cellsOf, Nat.le_refl, isPure, putCells, lcI_set, rowF_set, killTV, killAV]; (with_reducible refine hK _ ?_))
      show WpA _ _ _ _
      ((refine WpA_lreg [] [] (by simp) fun K hK => ?_); simp (disch := omega) only [kc, prep1, effM, ofConst, Value.oneCell', evBin, wrapI]; (with_reducible refine hK _ ?_))
      refine ⟨⟨i + 1, by omega⟩, by simp only; omega, Weak_sub ⟨?_, trivial⟩ ?_⟩
      · show [_] = [_]
        rw [rowF_congr fun j _ => ptF_step F i j]
      · simp [wkL, okTV, okAV]
    · have hin : i = n := by omega
      subst hin
      (refine WpA_sreg [] [] (by simp) fun K hK => ?_; simp (disch := omega) only [kc, prep1, slI, sl1, Hm, effM, evBin, decF]; (with_reducible refine hK _ ?_))
      refine WpA_seq (WpA_cond rfl (fun h => by simp at h <;> omega) (fun _ => WpA_exit ?_))
      show WpA _ _ _ _
      rw [rowF_congr (g := ptF F i) (g' := F) fun j hj => by unfold ptF; rw [if_pos hj]]
      refine WpA.weak ((Weak_fz 44 (fzOk_one rfl)).trans (Weak_sub (tm := [jk, jk, jk, jk, .raw (.int .i8 c), jk, jk, jk, jk, jk, jk, slI M, sl1 (rowF i va), sl1 (rowF i vb), sl1 (rowF i vw), sl1 (rowF i F), jk, jk, jk, jk, jk, jk, jk, jk, jk, jk, jk, jk, jk, jk, jk, jk, jk, jk, jk, jk, jk, jk, jk, jk, jk, jk, jk, jk, jk, jk, jk, jk, jk, jk, jk, jk, jk, jk, jk, jk, jk, jk, jk, jk, jk, jk, jk, jk, jk, jk, jk, jk, jk, jk, jk, jk, jk, jk, jk, jk, jk, jk, jk, jk, jk, jk, jk, jk, jk, jk, jk, jk, jk, jk, jk, jk, jk, jk, jk, jk, jk, jk, jk, jk, jk, jk, jk, jk, jk, jk, jk, jk, jk, jk, jk, jk, jk, jk, jk, jk, jk, jk, jk, jk, jk, jk, jk, jk, jk, jk, jk, jk, jk, jk, jk, jk, jk, jk, jk, jk, jk, jk, jk, jk, jk, jk, jk, jk]) (l := []) trivial (by simp [wkL, okTV, okAV, fzTV, fzAV, updH, Hm, lc_take, lc_cellF, List.take_of_length_le, rowF_len]))) ?_
      (refine WpA_sreg [⟨3, _, _, _, c1⟩] [] (by simp) fun K hK => ?_; simp (disch := omega) only [kc, slI, sl1, tvI, CItem.a, prep1, Nat.reduceAdd, Hm, opS_call, newS, effA, List.find?_cons, evAll, norm, CallRes.plain, rawTV, rawAV, normOk, noRefTV, noRefAV, renTV, renAV, opS_extract, effM]; (with_reducible refine hK _ ?_))
      (refine WpA_sreg [⟨3, _, _, _, c2⟩] [] (by simp) fun K hK => ?_; simp (disch := omega) only [kc, slI, sl1, tvI, CItem.a, prep1, Nat.reduceAdd, opS_call, newS, effA, List.find?_cons, evAll, norm, CallRes.plain, rawTV, rawAV, normOk, noRefTV, noRefAV, renTV, renAV, opS_extract, effM]; (with_reducible refine hK _ ?_))
      (refine WpA_sreg [⟨3, _, _, _, c3⟩] [] (by simp) fun K hK => ?_; simp (disch := omega) only [kc, slI, sl1, tvI, CItem.a, prep1, Nat.reduceAdd, opS_call, newS, effA, List.find?_cons, evAll, norm, CallRes.plain, rawTV, rawAV, normOk, noRefTV, noRefAV, renTV, renAV, opS_extract, effM]; (with_reducible refine hK _ ?_))
      (refine WpA_sreg [⟨2, _, _, _, c4⟩] [] (by simp) fun K hK => ?_; simp (disch := omega) only [kc, slI, sl1, tvI, CItem.a, prep1, Nat.reduceAdd, opS_call, newS, effA, List.find?_cons, evAll, norm, CallRes.plain, rawTV, rawAV, normOk, noRefTV, noRefAV, renTV, renAV, opS_extract, effM]; (with_reducible refine hK _ ?_))
      (refine WpA_sreg [⟨2, _, _, _, c5⟩] [] (by simp) fun K hK => ?_; simp (disch := omega) only [kc, slI, sl1, tvI, CItem.a, prep1, Nat.reduceAdd, opS_call, newS, effA, List.find?_cons, evAll, norm, CallRes.plain, rawTV, rawAV, normOk, noRefTV, noRefAV, renTV, renAV, opS_extract, effM]; (with_reducible refine hK _ ?_))
      refine WpA.weak (Weak_sub (tm := [jk, jk, jk, jk, .raw (.int .i8 c), jk, jk, jk, jk, jk, jk, jk, sl1 (rowF i va), jk, jk, jk, jk, .raw (.int .i64 p), .raw (.bool true), .raw (.int .i64 q), jk, .raw (.int .i64 r), jk, .raw (.int .i64 nn), .raw (.bool true), .raw (.int .i64 oo), .raw (.bool true), jk, jk, jk, jk, jk, jk, jk, jk, jk, jk, jk, jk, jk, jk, jk, jk, jk, jk, jk, jk, jk, jk, jk, jk, jk, jk, jk, jk, jk, jk, jk, jk, jk, jk, jk, jk, jk, jk, jk, jk, jk, jk, jk, jk, jk, jk, jk, jk, jk, jk, jk, jk, jk, jk, jk, jk, jk, jk, jk, jk, jk, jk, jk, jk, jk, jk, jk, jk, jk, jk, jk, jk, jk, jk, jk, jk, jk, jk, jk, jk, jk, jk, jk, jk, jk, jk, jk, jk, jk, jk, jk, jk, jk, jk, jk, jk, jk, jk, jk, jk, jk, jk, jk, jk, jk, jk, jk, jk, jk, jk, jk, jk, jk, jk, jk, jk, jk]) (l := []) trivial (by simp [wkL, okTV, okAV])) ?_
      (refine WpA_seq (WpA_sreg [] [] (by simp) fun K hK => ?_); simp (disch := omega) only [kc, prep1, Nat.reduceAdd, sl1, Hm, opS_un, effM, evUn, stS_guard, opS_pick, opS_conv, Tryz.underlying47, ty_int2, wrapI, evBin, e1, ifT, decT]; (with_reducible refine hK _ ?_))
      refine WpA_cond rfl (fun h => by simp at h <;> omega) (fun _ => WpA_skip ?_)
      show WpA _ _ _ _
      refine WpA.weak (Weak_sub (tm := [jk, jk, jk, jk, jk, jk, jk, jk, jk, jk, jk, jk, sl1 (rowF i va), jk, jk, jk, jk, jk, jk, .raw (.int .i64 q), jk, jk, jk, .raw (.int .i64 nn), jk, .raw (.int .i64 oo), jk, jk, jk, jk, jk, jk, jk, jk, jk, jk, jk, jk, jk, jk, jk, jk, jk, jk, jk, jk, jk, jk, jk, jk, jk, jk, jk, jk, jk, jk, jk, jk, jk, jk, jk, jk, jk, jk, jk, jk, jk, jk, jk, jk, jk, jk, jk, jk, jk, jk, jk, jk, jk, jk, jk, jk, jk, jk, jk, jk, jk, jk, jk, jk, jk, jk, jk, jk, jk, jk, jk, jk, jk, jk, jk, jk, jk, jk, jk, jk, jk, jk, jk, jk, jk, jk, jk, jk, jk, jk, jk, jk, jk, jk, jk, jk, jk, jk, jk, jk, jk, jk, jk, jk, jk, jk, jk, jk, jk, jk, jk, jk, jk, jk, jk, jk, jk, jk]) (l := []) trivial (by simp [wkL, okTV, okAV])) ?_
      rcases hz with ⟨hz1, hz2⟩ | ⟨hz1, hz2⟩
      · (refine WpA_sreg [⟨1, _, _, _, cc⟩] [] (by simp) fun K hK => ?_; simp (disch := omega) only [kc, sl1, CItem.a, prep1, Nat.reduceAdd, Hm, opS_call, newS, effA, List.find?_cons, evAll, norm, CallRes.plain, rawTV, rawAV, normOk, noRefTV, noRefAV, renTV, renAV, effM, ofConst, Value.oneCell', evBin, decT]; (with_reducible refine hK _ ?_))
        (refine WpA_sreg [⟨7, _, _, _, s1⟩, ⟨9, _, _, _, s1⟩, ⟨10, _, _, _, m1⟩, ⟨12, _, _, _, s2⟩, ⟨14, _, _, _, s3⟩, ⟨15, _, _, _, m2⟩, ⟨16, _, _, _, cm⟩, ⟨20, _, _, _, c9⟩] [] (by simp) fun K hK => ?_; simp (disch := omega) only [kc, tZ, decF, CItem.a, prep1, Nat.reduceAdd, effM, ofConst, Value.oneCell', evBin, opS_un, evUn, ty_bool4, stS_guard, opS_call, newS, effA, List.find?_cons, evAll, norm, CallRes.plain, rawTV, rawAV, normOk, noRefTV, noRefAV, renTV, renAV, ifT, Nat.reduceBEq, isPure, decT, opS_pick]; (with_reducible refine hK _ ?_))
        (refine WpA_ret ⟨.inr rfl, ret_now rfl ?_ rfl⟩; simp (disch := omega) only [resA, Tryz.results9, resOne, List.getElem?_cons_succ, List.getElem?_cons_zero])
      · (refine WpA_sreg [⟨1, _, _, _, cc⟩] [] (by simp) fun K hK => ?_; simp (disch := omega) only [kc, sl1, CItem.a, prep1, Nat.reduceAdd, Hm, opS_call, newS, effA, List.find?_cons, evAll, norm, CallRes.plain, rawTV, rawAV, normOk, noRefTV, noRefAV, renTV, renAV, effM, ofConst, Value.oneCell', evBin, decF]; (with_reducible refine hK _ ?_))
        (refine WpA_sreg [⟨7, _, _, _, s1⟩, ⟨9, _, _, _, s1⟩, ⟨10, _, _, _, m1⟩, ⟨12, _, _, _, s2⟩, ⟨14, _, _, _, s3⟩, ⟨15, _, _, _, m2⟩, ⟨16, _, _, _, cm⟩, ⟨20, _, _, _, c9⟩] [] (by simp) fun K hK => ?_; simp (disch := omega) only [kc, tZ, decF, CItem.a, prep1, Nat.reduceAdd, effM, ofConst, Value.oneCell', evBin, decT, opS_un, evUn, Bool.not_false, ty_bool4, stS_guard, opS_call, newS, effA, List.find?_cons, evAll, norm, CallRes.plain, rawTV, rawAV, normOk, noRefTV, noRefAV, renTV, renAV, ifT, Nat.reduceBEq, isPure, opS_pick]; (with_reducible refine hK _ ?_))
        (refine WpA_ret ⟨.inr rfl, ret_now rfl ?_ rfl⟩; simp (disch := omega) only [resA, Tryz.results9, resOne, List.getElem?_cons_succ, List.getElem?_cons_zero])
end Go.Proofs.YtennjcjjegbhgaaGreat
namespace Go.Proofs.YtennjcjjegbhgaaGreat
open Go.ChangeShapes Go.WideShapes Go.ChangeAt Go.RowKit
set_option maxRecDepth 100000 in
theorem vectorLinear_lifted (os : Os) (started : os.Started) (H : Type) (enc : TypeId × Value → H) :
    ReturnsInHanded {} Tryz.checked os 9 .any (Rows.vectorLinearSpec.pre6 enc Tryz.prog Tryz.f9 Rows.vectorLinearRow.domain false) (Rows.vectorLinearSpec.post enc Tryz.prog Tryz.f9 false true false false) := by
  refine returnsInHanded_of_change_sized (C := Tryz.checked) Tryz.ownKnob_ started (by kernel_rfl) Tryz.func9
    (ChangeSpec.witness6 (enc := enc) (C := Tryz.checked) false ⟨#[], #[.agg #[.int .u8 0, .int .u8 0, .slice none 0 0, .slice none 0 0], .slice none 0 0, .slice none 0 0, .slice none 0 0, .int .i8 0], []⟩ 8 (by kernel_rfl) (by kernel_rfl) (by kernel_rfl) (by kernel_rfl)) ?_
  intro W base args ds gs before hval0 hW hcnd hsz0 _
  have hval : ∀ (j : Nat) t v, Tryz.f9.params[j]? = some t → args[j]? = some v → Value.okWide Tryz.prog W .any base t v := hval0
  have hsz : (DataW.weightsEach Tryz.prog (Tryz.f9.params.toList ++ Rows.vectorLinearSpec.plain.varTypes Tryz.prog) (ds ++ gs)).all (· ≤ reachBytes) = true := hsz0
  have hW' := hW
  obtain ⟨p, q, hA0, hV, rfl, hfz, hnd⟩ := hW
  have hA : DataW.TrodAll enc Tryz.prog W 0 (fun _ => true) true Tryz.f9.params.toList args.toList ds p := hA0
  rw [Tryz.params9] at hA hval hsz
  obtain ⟨v0, vs0, d0, ds0, p0, q0, hargs, rfl, rfl, h0, r0⟩ := trodAll_cons hA
  obtain ⟨v1, vs1, d1, ds1, p1, q1, rfl, rfl, rfl, h1, r1⟩ := trodAll_cons r0
  obtain ⟨v2, vs2, d2, ds2, p2, q2, rfl, rfl, rfl, h2, r2⟩ := trodAll_cons r1
  obtain ⟨v3, vs3, d3, ds3, p3, q3, rfl, rfl, rfl, h3, r3⟩ := trodAll_cons r2
  obtain ⟨v4, vs4, d4, ds4, p4, q4, rfl, rfl, rfl, h4, r4⟩ := trodAll_cons r3
  obtain ⟨rfl, rfl, rfl⟩ := trodAll_nil r4
  obtain rfl : args = #[v0, v1, v2, v3, v4] := by cases args; simp_all
  obtain ⟨rfl, rfl⟩ := trodVars_none hV
  have k0 := h0
  have lt0 : ∀ x ∈ p0, x.block < W.heap.size := by obtain ⟨m, hm⟩ := k0; exact DataW.trod_lt m _ _ _ hm
  obtain ⟨u00, u01, u02, u03, y00, y01, y02, y03, n0, rfl, rfl, rfl, q00, q01, q02, q03⟩ := Go.Joins.open_agg4 Tryz.underlying26 (by kernel_rfl) (by kernel_rfl) (hval 0 26 v0 rfl rfl) h0
  obtain ⟨dim0, rfl, hd0⟩ := open_cellU Tryz.underlying5 q00
  obtain ⟨kind0, rfl, hk0⟩ := open_cellU Tryz.underlying5 q01
  obtain ⟨L0, rL0, hL0⟩ := open_cell8 Tryz.underlying24 Tryz.underlying47 (by kernel_rfl) q02
  obtain ⟨B0, rB0, hB0⟩ := open_cell8 Tryz.underlying24 Tryz.underlying47 (by kernel_rfl) q03
  have k1 := h1
  have lt1 : ∀ x ∈ p1, x.block < W.heap.size := by obtain ⟨m, hm⟩ := k1; exact DataW.trod_lt m _ _ _ hm
  obtain ⟨a1, len1, cap1, rfl⟩ := okWide_slice Tryz.underlying24 (hval 1 24 v1 rfl rfl)
  obtain ⟨z1, g1, i1⟩ : ∃ L : List Int, Rep (fun _ => False) W (.sl (ls f8 L)) (.slice a1 len1 cap1) ∧ I8 L := by obtain ⟨m, hm⟩ := h1; exact open_cell8 (y := (d1, p1)) Tryz.underlying24 Tryz.underlying47 (by kernel_rfl) (by simpa [Value.cells] using hm)
  have k2 := h2
  have lt2 : ∀ x ∈ p2, x.block < W.heap.size := by obtain ⟨m, hm⟩ := k2; exact DataW.trod_lt m _ _ _ hm
  obtain ⟨a2, len2, cap2, rfl⟩ := okWide_slice Tryz.underlying24 (hval 2 24 v2 rfl rfl)
  obtain ⟨z2, g2, i2⟩ : ∃ L : List Int, Rep (fun _ => False) W (.sl (ls f8 L)) (.slice a2 len2 cap2) ∧ I8 L := by obtain ⟨m, hm⟩ := h2; exact open_cell8 (y := (d2, p2)) Tryz.underlying24 Tryz.underlying47 (by kernel_rfl) (by simpa [Value.cells] using hm)
  have k3 := h3
  have lt3 : ∀ x ∈ p3, x.block < W.heap.size := by obtain ⟨m, hm⟩ := k3; exact DataW.trod_lt m _ _ _ hm
  obtain ⟨a3, len3, cap3, rfl⟩ := okWide_slice Tryz.underlying24 (hval 3 24 v3 rfl rfl)
  obtain ⟨z3, g3, i3⟩ : ∃ L : List Int, Rep (fun _ => False) W (.sl (ls f8 L)) (.slice a3 len3 cap3) ∧ I8 L := by obtain ⟨m, hm⟩ := h3; exact open_cell8 (y := (d3, p3)) Tryz.underlying24 Tryz.underlying47 (by kernel_rfl) (by simpa [Value.cells] using hm)
  obtain ⟨a4, rfl, rfl, rfl, w4⟩ := open_int Tryz.underlying47 (hval 4 47 v4 rfl rfl) h4
  clear hA0 hval0 hsz0
  refine ((lawLinear_C dim0 kind0 L0 B0 z1 z2 z3 a4 hL0 hd0 hk0 i1 i2 i3 (wf_i8_bd w4)).law (vs := #[.agg #[.int .u8 (dim0 : Int), .int .u8 (kind0 : Int), u02, u03], .slice a1 len1 cap1, .slice a2 len2 cap2, .slice a3 len3 cap3, .int .i8 a4]) rfl (argsT (vs := [.agg #[.int .u8 (dim0 : Int), .int .u8 (kind0 : Int), u02, u03], .slice a1 len1 cap1, .slice a2 len2 cap2, .slice a3 len3 cap3, .int .i8 a4]) rfl (fun j t v ht hv => by
    match j, ht, hv with
    | 0, ht, hv => simp at ht hv; subst ht; subst hv; exact rel_L rL0 rB0
    | 1, ht, hv => simp at ht hv; subst ht; subst hv; exact g1
    | 2, ht, hv => simp at ht hv; subst ht; subst hv; exact g2
    | 3, ht, hv => simp at ht hv; subst ht; subst hv; exact g3
    | 4, ht, hv => simp at ht hv; subst ht; subst hv; exact Rep.raw _ rfl
    | j + 5, ht, hv => simp at ht))).mono fun e W' ⟨he, bel0⟩ => ?_
  have bel : Below W.heap.size W W' := bel0
  subst he
  exact ⟨_, rfl, _, _, _, [], _, [], hW', trodAll_mk1 (shut_bool Tryz.underlying4 _), (trodAll_cons_mk (Below.trod Tryz.laidOut_ (by kernel_rfl) (of_decide_eq_true (by kernel_rfl)) k0 bel lt0) (trodAll_cons_mk (Below.trod Tryz.laidOut_ (by kernel_rfl) (of_decide_eq_true (by kernel_rfl)) k1 bel lt1) (trodAll_cons_mk (Below.trod Tryz.laidOut_ (by kernel_rfl) (of_decide_eq_true (by kernel_rfl)) k2 bel lt2) (trodAll_cons_mk (Below.trod Tryz.laidOut_ (by kernel_rfl) (of_decide_eq_true (by kernel_rfl)) k3 bel lt3) (trodAll_cons_mk (shut_int Tryz.underlying47 w4) trodAll_mk0))))), rfl, bel.frame _, fun h => by cases h⟩
theorem vectorLinear_holds : Rows.VectorLinearSaid :=
  OpenClaim.holds_of_wide 9 Tryz.f9 rfl rfl rfl rfl rfl rfl rfl ⟨rfl, rfl, rfl, rfl, rfl⟩ rfl rfl rfl rfl rfl (by kernel_rfl) Tryz.func9 (by kernel_rfl)
    (of_decide_eq_true (by kernel_rfl)) (by unfold Func.isWrapper; first | (rw [if_pos (by decide +kernel)]; kernel_rfl) | (rw [if_neg (by decide +kernel)]; exact ⟨rfl, rfl⟩))
    (fun os started H enc _ => vectorLinear_lifted os started H enc)
#print axioms vectorLinear_holds
end Go.Proofs.YtennjcjjegbhgaaGreat
