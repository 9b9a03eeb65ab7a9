/-
  law25.messages, law25.cp; what the messages are.
-/
import Derived.Test.YtefnagiffllhbaaGreatJM21
import Derived.Test.YtefnagiffllhbaaGreatJM9
import Derived.Test.YtefnagiffllhbaaGreatJM10
import Derived.Test.YtefnagiffllhbaaGreatJM20

/- FftO -/
namespace Go.Proofs.YtefnagiffllhbaaGreat

theorem two_fermat {p : Nat} (h : okP p = true) : sqm p 64 2 (p - 1) = 1 ∧ sqm p 64 (rowOf p).1 (p - 1) = 1 ∧ p - 1 < 2 ^ 64 := by
  rcases okP_cases h with rfl | rfl | rfl | rfl | rfl | rfl | rfl <;> decide +kernel
theorem two_one {p : Nat} (h : okP p = true) : Cg p ((2 : Int) ^ (p - 1)) 1 := by
  obtain ⟨h1, -, h3⟩ := two_fermat h
  have h4 := sqm_cg p 64 2 (p - 1) h3
  rw [h1] at h4
  exact h4.symm
theorem gen_one {p : Nat} (h : okP p = true) : Cg p (((rowOf p).1 : Int) ^ (p - 1)) 1 := by
  obtain ⟨-, h1, h3⟩ := two_fermat h
  have h4 := sqm_cg p 64 (rowOf p).1 (p - 1) h3
  rw [h1] at h4
  exact h4.symm
/-- n * n^(p-2) = 1 for a power of two. -/
theorem inv_two {p n j : Nat} (h : okP p = true) (hj : n = 2 ^ j) : Cg p ((n : Int) * ((n ^ (p - 2) % p : Nat) : Int)) 1 := by
  have hp := okP_lt h
  refine (Cg.rfl'.mul (Cg.mod _)).trans ?_
  have e : (n : Int) * ((n ^ (p - 2) : Nat) : Int) = ((2 : Int) ^ (p - 1)) ^ j := by
    rw [Int.natCast_pow, hj, Int.natCast_pow, Int.mul_comm, ← Int.pow_succ, ← Int.pow_mul, ← Int.pow_mul, Nat.succ_eq_add_one, show p - 2 + 1 = p - 1 by omega, Nat.mul_comm]
    rfl
  rw [e]
  refine ((two_one h).pow j).trans (Cg.of_eq ?_)
  exact Int.one_pow
/-- The root of order n, and its inverse. -/
theorem root_one {p n : Nat} (h : okP p = true) (hn : LenOk p n) : Cg p ((rootP p n : Int) ^ n) 1 := by
  refine ((Cg.mod (p := p) _).pow _).trans (Cg.trans (Cg.of_eq ?_) (gen_one h))
  rw [Int.natCast_pow, ← Int.pow_mul]
  congr 1
  have hd := hn.dvd
  have := Nat.div_add_mod (p - 1) n
  rw [Nat.mul_comm]
  omega
theorem inv_root {p n : Nat} (h : okP p = true) (hn : LenOk p n) : Cg p ((rootP p n : Int) * ((rootP p n ^ (p - 2) % p : Nat) : Int)) 1 := by
  have hp := okP_lt h
  refine (Cg.rfl'.mul (Cg.mod _)).trans ?_
  have e : (rootP p n : Int) * ((rootP p n ^ (p - 2) : Nat) : Int) = ((rootP p n : Int) ^ n) ^ ((p - 1) / n) := by
    have hd := hn.dvd
    have h2 := Nat.div_add_mod (p - 1) n
    rw [Int.natCast_pow, Int.mul_comm, ← Int.pow_succ, ← Int.pow_mul]
    congr 1
    omega
  rw [e]
  exact ((root_one h hn).pow _).trans (Cg.of_eq Int.one_pow)
end Go.Proofs.YtefnagiffllhbaaGreat

/- FftP -/
namespace Go.Proofs.YtefnagiffllhbaaGreat

theorem evI_one_zero {p : Nat} : ∀ (j : Nat) (x : Int) (t : Nat), t < j → Cg p (x ^ (2 ^ t)) (-1) → Cg p (evI (fun _ => 1) x (2 ^ j)) 0
  | 0, _, t, ht, _ => absurd ht (Nat.not_lt_zero t)
  | j + 1, x, t, ht, hx => by
    rw [show 2 ^ (j + 1) = 2 * 2 ^ j by rw [Nat.pow_succ, Nat.mul_comm], evI_split]
    show Cg p (evI (fun _ => 1) (x * x) (2 ^ j) + x * evI (fun _ => 1) (x * x) (2 ^ j)) 0
    cases t with
    | zero =>
      rw [Nat.pow_zero, Int.pow_succ, Int.pow_zero, Int.one_mul] at hx
      exact (Cg.rfl'.add (hx.mul Cg.rfl')).trans (Cg.of_eq (by omega))
    | succ t =>
      have ih := evI_one_zero j (x * x) t (by omega) (by
        refine Cg.trans (Cg.of_eq ?_) hx
        rw [show x * x = x ^ 2 by rw [Int.pow_succ, Int.pow_succ, Int.pow_zero, Int.one_mul], ← Int.pow_mul]
        congr 1
        rw [Nat.pow_succ, Nat.mul_comm])
      exact (ih.add (Cg.rfl'.mul ih)).trans (Cg.of_eq (by omega))
theorem odd_neg : ∀ o : Nat, (-1 : Int) ^ (2 * o + 1) = -1
  | 0 => by decide
  | o + 1 => by rw [show 2 * (o + 1) + 1 = (2 * o + 1) + 1 + 1 by omega, Int.pow_succ, Int.pow_succ, odd_neg o]; decide
theorem some_neg {p : Nat} : ∀ (j : Nat) (w : Int) (d : Nat), Cg p (w ^ (2 ^ (j - 1))) (-1) → 0 < d → d < 2 ^ j → ∃ t, t < j ∧ Cg p ((w ^ d) ^ (2 ^ t)) (-1)
  | 0, _, d, _, h0, h1 => by omega
  | j + 1, w, d, hw, h0, h1 => by
    rcases Nat.mod_two_eq_zero_or_one d with h | h
    · obtain ⟨e, rfl⟩ : ∃ e, d = 2 * e := ⟨d / 2, by omega⟩
      have hj : j ≠ 0 := by rintro rfl; omega
      have he : e < 2 ^ j := by rw [Nat.pow_succ] at h1; omega
      obtain ⟨t, ht, hc⟩ := some_neg j (w ^ 2) e (by
        refine Cg.trans (Cg.of_eq ?_) hw
        rw [← Int.pow_mul]
        congr 1
        show 2 * 2 ^ (j - 1) = 2 ^ j
        rw [Nat.mul_comm, ← Nat.pow_succ]
        congr 1
        omega) (by omega) he
      exact ⟨t, by omega, by rw [Int.pow_mul (a := w)]; exact hc⟩
    · obtain ⟨o, rfl⟩ : ∃ o, d = 2 * o + 1 := ⟨d / 2, by omega⟩
      refine ⟨j, by omega, ?_⟩
      rw [← Int.pow_mul, Nat.mul_comm, Int.pow_mul]
      exact (Cg.pow hw _).trans (Cg.of_eq (odd_neg o))
/-- The sum of the powers of a root that is not 1. -/
theorem root_sum {p j d : Nat} {w : Int} (hw : Cg p (w ^ (2 ^ (j - 1))) (-1)) (h0 : 0 < d) (h1 : d < 2 ^ j) : Cg p (evI (fun _ => 1) (w ^ d) (2 ^ j)) 0 := by
  obtain ⟨t, ht, hc⟩ := some_neg j w d hw h0 h1
  exact evI_one_zero j _ t ht hc
end Go.Proofs.YtefnagiffllhbaaGreat

/- FftQ -/
namespace Go.Proofs.YtefnagiffllhbaaGreat

def sumI (f : Nat → Int) : Nat → Int
  | 0 => 0
  | n + 1 => sumI f n + f n
theorem evI_sum (a : Nat → Int) (x : Int) : ∀ n, evI a x n = sumI (fun i => a i * x ^ i) n
  | 0 => rfl
  | n + 1 => by rw [evI, sumI, evI_sum a x n]
theorem sumI_cg {p : Nat} {f g : Nat → Int} : ∀ n, (∀ i, i < n → Cg p (f i) (g i)) → Cg p (sumI f n) (sumI g n)
  | 0, _ => Cg.rfl'
  | n + 1, h => (sumI_cg n fun i hi => h i (by omega)).add (h n (by omega))
theorem sumI_mul (c : Int) (f : Nat → Int) : ∀ n, c * sumI f n = sumI (fun i => c * f i) n
  | 0 => by simp [sumI]
  | n + 1 => by rw [sumI, sumI, Int.mul_add, sumI_mul c f n]
theorem sumI_add (f g : Nat → Int) : ∀ n, sumI (fun i => f i + g i) n = sumI f n + sumI g n
  | 0 => rfl
  | n + 1 => by rw [sumI, sumI, sumI, sumI_add f g n]; omega
theorem sumI_zero : ∀ n, sumI (fun _ => 0) n = 0
  | 0 => rfl
  | n + 1 => by rw [sumI, sumI_zero n]; rfl
theorem sumI_swap (f : Nat → Nat → Int) (m : Nat) : ∀ n, sumI (fun i => sumI (fun k => f i k) m) n = sumI (fun k => sumI (fun i => f i k) n) m
  | 0 => by simp only [sumI]; rw [sumI_zero]
  | n + 1 => by
    rw [sumI, sumI_swap f m n, ← sumI_add]
    rfl
theorem sumI_one {p n q : Nat} {f : Nat → Int} {y : Int} (hq : q < n) (h0 : ∀ k, k < n → k ≠ q → Cg p (f k) 0) (h1 : Cg p (f q) y) : Cg p (sumI f n) y := by
  induction n with
  | zero => omega
  | succ n ih =>
    rw [sumI]
    by_cases e : q = n
    · subst e
      have hz : Cg p (sumI f q) (sumI (fun _ => 0) q) := sumI_cg q fun i hi => h0 i (by omega) (by omega)
      rw [sumI_zero] at hz
      exact (hz.add h1).trans (Cg.of_eq (by omega))
    · exact ((ih (by omega) fun k hk hne => h0 k (by omega) hne).add (h0 n (by omega) (by omega))).trans (Cg.of_eq (by omega))
theorem evI_ones : ∀ n : Nat, evI (fun _ => 1) 1 n = (n : Int)
  | 0 => rfl
  | n + 1 => by rw [evI, evI_ones n, Int.one_pow]; omega

theorem half_inv {p j : Nat} {w v : Int} (hw : Cg p (w ^ (2 ^ (j - 1))) (-1)) (hv : Cg p (w * v) 1) : Cg p (v ^ (2 ^ (j - 1))) (-1) := by
  have h1 := hv.pow (2 ^ (j - 1))
  rw [Int.mul_pow, Int.one_pow] at h1
  have h2 := ((hw.mul (Cg.rfl' (x := v ^ (2 ^ (j - 1))))).symm.trans h1).neg
  exact Cg.trans (Cg.of_eq (by omega)) h2
theorem inv_pow {p : Nat} {w v : Int} (hv : Cg p (w * v) 1) (q : Nat) : Cg p (v ^ q * w ^ q) 1 := by
  rw [← Int.mul_pow, Int.mul_comm v w]
  exact (hv.pow q).trans (Cg.of_eq Int.one_pow)

/-- The polynomial with the coefficients s * (the value at v^i) takes the value m q at w^q. -/
theorem inv_eval {p n j : Nat} (m : Nat → Int) (w v s : Int) (hn : n = 2 ^ j) (hw : j = 0 ∨ Cg p (w ^ (2 ^ (j - 1))) (-1)) (hv : Cg p (w * v) 1) (hs : Cg p ((n : Int) * s) 1) (q : Nat) (hq : q < n) :
    Cg p (evI (fun i => s * evI m (v ^ i) n) (w ^ q) n) (m q) := by
  have hx : ∀ k, k < n → k ≠ q → Cg p (evI (fun _ => 1) (v ^ k * w ^ q) n) 0 := by
    intro k hk hne
    have hj : j ≠ 0 := by rintro rfl; omega
    have hw1 : Cg p (w ^ (2 ^ (j - 1))) (-1) := hw.resolve_left hj
    rcases Nat.lt_or_gt_of_ne hne with h | h
    · have e : Cg p (v ^ k * w ^ q) (w ^ (q - k)) := by
        obtain ⟨d, rfl⟩ : ∃ d, q = k + d := ⟨q - k, by omega⟩
        rw [Nat.add_sub_cancel_left, Int.pow_add, ← Int.mul_assoc]
        exact ((inv_pow hv k).mul Cg.rfl').trans (Cg.of_eq (Int.one_mul _))
      rw [hn]
      exact (evI_cg (fun _ => Cg.rfl') e _).trans (root_sum hw1 (by omega) (by omega))
    · have e : Cg p (v ^ k * w ^ q) (v ^ (k - q)) := by
        obtain ⟨d, rfl⟩ : ∃ d, k = q + d := ⟨k - q, by omega⟩
        rw [Nat.add_sub_cancel_left, Int.pow_add, Int.mul_assoc, Int.mul_comm (v ^ d), ← Int.mul_assoc]
        exact ((inv_pow hv q).mul Cg.rfl').trans (Cg.of_eq (Int.one_mul _))
      rw [hn]
      exact (evI_cg (fun _ => Cg.rfl') e _).trans (root_sum (half_inv hw1 hv) (by omega) (by omega))
  have hq1 : Cg p (evI (fun _ => 1) (v ^ q * w ^ q) n) (n : Int) := (evI_cg (fun _ => Cg.rfl') (inv_pow hv q) n).trans (Cg.of_eq (evI_ones n))
  have e1 : evI (fun i => s * evI m (v ^ i) n) (w ^ q) n = sumI (fun k => s * m k * evI (fun _ => 1) (v ^ k * w ^ q) n) n := by
    rw [evI_sum]
    have e2 : (fun i => s * evI m (v ^ i) n * (w ^ q) ^ i) = fun i => sumI (fun k => s * m k * (v ^ k * w ^ q) ^ i) n := by
      funext i
      rw [evI_sum, Int.mul_comm (s * _), ← Int.mul_assoc, sumI_mul]
      congr 1
      funext k
      rw [Int.mul_pow, ← Int.pow_mul (a := v), ← Int.pow_mul (a := v), Nat.mul_comm i k]
      grind
    rw [e2, sumI_swap]
    congr 1
    funext k
    rw [evI_sum, sumI_mul]
    congr 1
    funext i
    rw [Int.one_mul]
  rw [e1]
  refine sumI_one hq (fun k hk hne => ?_) ?_
  · exact (Cg.rfl'.mul (hx k hk hne)).trans (Cg.of_eq (Int.mul_zero _))
  · refine (Cg.rfl'.mul hq1).trans (Cg.trans (Cg.of_eq (y := (n : Int) * s * m q) (by grind)) ?_)
    exact (hs.mul Cg.rfl').trans (Cg.of_eq (Int.one_mul _))
end Go.Proofs.YtefnagiffllhbaaGreat

/- FftR -/
namespace Go.Proofs.YtefnagiffllhbaaGreat

theorem invP_cg {p n j : Nat} (l : List Nat) (h : okP p = true) (hn : LenOk p n) (hj : n = 2 ^ j) {i : Nat} (hi : i < n) :
    Cg p (invP p n j l i : Int) (((n ^ (p - 2) % p : Nat) : Int) * evI (fun k => ((l.getD k 0 : Nat) : Int)) (((rootP p n ^ (p - 2) % p : Nat) : Int) ^ i) n) := by
  have hp := okP_lt h
  have hv : j = 0 ∨ Cg p (((rootP p n ^ (p - 2) % p : Nat) : Int) ^ (2 ^ (j - 1))) (-1) := (root_half h hn hj).imp id fun h1 => half_inv h1 (inv_root h hn)
  have h1 := fftP_ev p (by omega) j (redP p l) (rootP p n ^ (p - 2) % p) hv i (by omega)
  rw [← hj] at h1
  refine (Cg.mod _).trans ?_
  rw [Int.natCast_mul, Int.mul_comm]
  exact Cg.rfl'.mul (h1.trans (evI_cg (fun k => Cg.mod _) Cg.rfl' n))
theorem evI_cgn {p : Nat} {a b : Nat → Int} (x : Int) : ∀ n, (∀ i, i < n → Cg p (a i) (b i)) → Cg p (evI a x n) (evI b x n)
  | 0, _ => Cg.rfl'
  | n + 1, h => (evI_cgn x n fun i hi => h i (by omega)).add ((h n (by omega)).mul Cg.rfl')
theorem invP_val {p n j : Nat} (l : List Nat) (h : okP p = true) (hn : LenOk p n) (hj : n = 2 ^ j) {q : Nat} (hq : q < n) :
    Cg p (evI (fun i => (invP p n j l i : Int)) ((rootP p n : Int) ^ q) n) ((l.getD q 0 : Nat) : Int) :=
  (evI_cgn _ n fun _ hi => invP_cg l h hn hj hi).trans (inv_eval (fun k => ((l.getD k 0 : Nat) : Int)) _ _ _ hj (root_half h hn hj) (inv_root h hn) (inv_two h hj) q hq)
end Go.Proofs.YtefnagiffllhbaaGreat

/- FftS -/
namespace Go.Proofs.YtefnagiffllhbaaGreat

theorem evI_same {a b : Nat → Int} (x : Int) : ∀ n, (∀ i, i < n → a i = b i) → evI a x n = evI b x n
  | 0, _ => rfl
  | n + 1, h => by rw [evI, evI, evI_same x n fun i hi => h i (by omega), h n (by omega)]
theorem evI_put (a : Nat → Nat) (k v : Nat) (x : Int) : ∀ n, k < n → evI (fun i => (putF a k v i : Int)) x n = evI (fun i => (a i : Int)) x n + ((v : Int) - a k) * x ^ k
  | 0, h => by omega
  | n + 1, h => by
    rw [evI, evI]
    by_cases e : k = n
    · subst e
      rw [evI_same (b := fun i => (a i : Int)) x k fun i hi => by simp only [putF]; rw [if_neg (by omega)]]
      simp only [putF, if_true]
      grind
    · rw [evI_put a k v x n (by omega)]
      simp only [putF]
      rw [if_neg (by omega)]
      omega
theorem vanP_ev {p b : Nat} (hp : 0 < p) (l : List Nat) (x : Int) (m : Nat) : ∀ i, i ≤ m → Cg p (evI (fun k => (vanP p b l i k : Int)) x (b + m)) ((x ^ b - 1) * evI (fun k => ((l.getD k 0 : Nat) : Int)) x i)
  | 0, _ => by
    refine Cg.of_eq ?_
    show evI (fun k => ((0 : Nat) : Int)) x (b + m) = (x ^ b - 1) * 0
    rw [evI_sum, Int.mul_zero, ← sumI_zero (b + m)]
    congr 1
    funext k
    simp
  | i + 1, hi => by
    have ih := vanP_ev hp (b := b) l x m i (by omega)
    rw [vanP]
    rw [evI_put _ _ _ _ _ (by omega), evI_put _ _ _ _ _ (by omega), evI]
    generalize putF (vanP p b l i) i ((vanP p b l i i + negP p (l.getD i 0)) % p) = v
    have h1 : Cg p (((vanP p b l i i + negP p (l.getD i 0)) % p : Nat) - (vanP p b l i i : Int)) (-((l.getD i 0 : Nat) : Int)) := by
      have := ((Cg.mod (p := p) (vanP p b l i i + negP p (l.getD i 0))).trans (Cg.trans (Cg.of_eq (Int.natCast_add _ _)) (Cg.rfl'.add (negP_cg p (l.getD i 0) hp)))).add (Cg.rfl' (x := -(vanP p b l i i : Int)))
      exact Cg.trans (Cg.of_eq (by omega)) (this.trans (Cg.of_eq (by omega)))
    have h2 : Cg p (((v (b + i) + l.getD i 0) % p : Nat) - (v (b + i) : Int)) ((l.getD i 0 : Nat) : Int) := by
      have := ((Cg.mod (p := p) (v (b + i) + l.getD i 0)).trans (Cg.of_eq (Int.natCast_add _ _))).add (Cg.rfl' (x := -(v (b + i) : Int)))
      exact Cg.trans (Cg.of_eq (by omega)) (this.trans (Cg.of_eq (by omega)))
    refine ((ih.add (h1.mul Cg.rfl')).add (h2.mul Cg.rfl')).trans (Cg.of_eq ?_)
    rw [Int.pow_add]
    grind
end Go.Proofs.YtefnagiffllhbaaGreat

/- PoL -/
namespace Go.Proofs.YtefnagiffllhbaaGreat

theorem vanP_cg {p b : Nat} (hp : 0 < p) (hb : 0 < b) (l : List Nat) : ∀ i k, Cg p (vanP p b l i k : Int) ((if b ≤ k ∧ k < b + i then ((l.getD (k - b) 0 : Nat) : Int) else 0) - (if k < i then ((l.getD k 0 : Nat) : Int) else 0))
  | 0, k => by
    rw [if_neg (by omega), if_neg (by omega)]
    exact Cg.of_eq rfl
  | i + 1, k => by
    have ih := vanP_cg hp hb l i
    rw [vanP]
    simp only [putF]
    by_cases h1 : k = b + i
    · subst h1
      rw [if_pos rfl, if_neg (by omega), if_pos (by omega), Nat.add_sub_cancel_left]
      have h := ih (b + i)
      rw [if_neg (by omega)] at h
      refine (Cg.mod _).trans (Cg.trans (Cg.of_eq (Int.natCast_add _ _)) ?_)
      by_cases h2 : b + i < i + 1
      · omega
      · rw [if_neg h2]
        rw [if_neg (by omega)] at h
        exact (h.add Cg.rfl').trans (Cg.of_eq (by omega))
    · rw [if_neg h1]
      by_cases h2 : k = i
      · subst h2
        rw [if_pos rfl, if_pos (show k < k + 1 by omega)]
        have h := ih k
        rw [if_neg (by omega : ¬ k < k)] at h
        refine (Cg.mod _).trans (Cg.trans (Cg.of_eq (Int.natCast_add _ _)) ?_)
        have e : (if b ≤ k ∧ k < b + (k + 1) then ((l.getD (k - b) 0 : Nat) : Int) else 0) = (if b ≤ k ∧ k < b + k then ((l.getD (k - b) 0 : Nat) : Int) else 0) := by
          by_cases h3 : b ≤ k
          · rw [if_pos (by omega), if_pos (by omega)]
          · rw [if_neg (by omega), if_neg (by omega)]
        rw [e]
        exact (h.add (negP_cg p _ hp)).trans (Cg.of_eq (by omega))
      · rw [if_neg h2]
        have h := ih k
        refine h.trans (Cg.of_eq ?_)
        congr 1
        · by_cases h3 : b ≤ k ∧ k < b + i
          · rw [if_pos h3, if_pos (by omega)]
          · rw [if_neg h3, if_neg (by omega)]
        · by_cases h3 : k < i
          · rw [if_pos h3, if_pos (by omega)]
          · rw [if_neg h3, if_neg (by omega)]

theorem zeroP_get (p b i : Nat) : (zeroP p b).getD i 0 = if i < b + 1 then zeroF p b i else 0 := range_get _ _ _
theorem mulZ_low {p b : Nat} (hp : 1 < p) (hb : 0 < b) (m : List Nat) (i : Nat) : ∀ j, j < b → Cg p ((mulK p (zeroP p b) m (j + 1)).getD i 0 : Int) (-((m.getD i 0 : Nat) : Int))
  | 0, _ => by
    have hz : (zeroP p b).getD 0 0 = p - 1 := by rw [zeroP_get, if_pos (by omega)]; rfl
    rw [mulK, addP_get, shiftP_get, if_neg (by omega), scaleP_get, hz]
    have e0 : (mulK p (zeroP p b) m 0).getD i 0 = 0 := by rw [mulK]; rfl
    rw [e0, Nat.sub_zero]
    refine (Cg.mod _).trans ?_
    rw [Nat.zero_add]
    refine (Cg.mod _).trans ?_
    rw [Int.natCast_mul]
    have h1 : Cg p ((p - 1 : Nat) : Int) (-1) := ⟨1, by omega⟩
    exact ((Cg.rfl' (x := ((m.getD i 0 : Nat) : Int))).mul h1).trans (Cg.of_eq (by omega))
  | j + 1, hj => by
    have hz : (zeroP p b).getD (j + 1) 0 = 0 := by
      rw [zeroP_get, if_pos (by omega), zeroF, if_neg (by omega), if_neg (by omega)]
    rw [mulK_get_zero _ _ _ _ hz]
    exact (Cg.mod _).trans (mulZ_low hp hb m i j (by omega))
theorem mulZ_cg {p b : Nat} (hp : 1 < p) (hb : 0 < b) (m : List Nat) (i : Nat) : Cg p ((mulP p (zeroP p b) m).getD i 0 : Int) ((if b ≤ i then ((m.getD (i - b) 0 : Nat) : Int) else 0) - ((m.getD i 0 : Nat) : Int)) := by
  have hz : (zeroP p b).getD b 0 = 1 := by rw [zeroP_get, if_pos (by omega), zeroF, if_neg (by omega), if_pos rfl]
  obtain ⟨c, rfl⟩ : ∃ c, b = c + 1 := ⟨b - 1, by omega⟩
  rw [mulP, zeroP_len, mulK, addP_get, shiftP_get, scaleP_get, hz, Nat.mul_one]
  have h := mulZ_low hp hb m i c (by omega)
  refine (Cg.mod _).trans (Cg.trans (Cg.of_eq (Int.natCast_add _ _)) ?_)
  by_cases h1 : i < c + 1
  · rw [if_pos h1, if_neg (by omega)]
    exact (h.add Cg.rfl').trans (Cg.of_eq (by omega))
  · rw [if_neg h1, if_pos (by omega)]
    exact (h.add (Cg.mod _)).trans (Cg.of_eq (by omega))
theorem mulZ_van {p b : Nat} (hp : 1 < p) (hb : 0 < b) (m : List Nat) (i : Nat) : (mulP p (zeroP p b) m).getD i 0 = vanP p b m m.length i := by
  refine Cg.eq (p := p) ((mulZ_cg hp hb m i).trans (Cg.trans (Cg.of_eq ?_) (vanP_cg (by omega) hb m m.length i).symm)) (mulK_lt (by omega) _ _ _ _) (vanP_lt (by omega) _ _ _)
  congr 1
  · by_cases h1 : b ≤ i
    · rw [if_pos h1]
      by_cases h2 : i < b + m.length
      · rw [if_pos ⟨h1, h2⟩]
      · rw [if_neg (by omega), getD_out (by omega)]; rfl
    · rw [if_neg h1, if_neg (by omega)]
  · by_cases h1 : i < m.length
    · rw [if_pos h1]
    · rw [if_neg h1, getD_out (by omega)]; rfl

theorem geoR_cg {p a b : Nat} : ∀ k, Cg p (geoR p a b k : Int) ((a : Int) * (b : Int) ^ k)
  | 0 => Cg.of_eq (by rw [geoR, Int.pow_zero, Int.mul_one])
  | k + 1 => by
    rw [geoR]
    refine (Cg.mod _).trans ?_
    rw [Int.natCast_mul, Int.pow_succ, ← Int.mul_assoc]
    exact (geoR_cg k).mul Cg.rfl'
theorem domR_cg {p s n : Nat} (k : Nat) : Cg p (domR p s n k : Int) ((s : Int) * (rootP p n : Int) ^ k) := (geoR_cg k).trans ((Cg.mod s).mul Cg.rfl')
theorem evI_shift (a : Nat → Int) (x : Int) : ∀ n, evI a x (n + 1) = a 0 + x * evI (fun i => a (i + 1)) x n
  | 0 => by simp [evI]
  | n + 1 => by
    rw [evI, evI_shift a x n, evI, Int.pow_succ]
    grind
theorem hornP_cg {p x : Nat} : ∀ l : List Nat, Cg p (hornP p x l : Int) (evI (fun i => ((l.getD i 0 : Nat) : Int)) (x : Int) l.length)
  | [] => Cg.rfl'
  | c :: l => by
    rw [hornP, List.length_cons, evI_shift]
    refine (Cg.mod _).trans (Cg.trans (Cg.of_eq (Int.natCast_add _ _)) ?_)
    refine (((Cg.mod (hornP p x l * x)).trans (Cg.trans (Cg.of_eq (Int.natCast_mul _ _)) ((hornP_cg l).mul Cg.rfl'))).add Cg.rfl').trans (Cg.of_eq ?_)
    show evI (fun i => ((l.getD i 0 : Nat) : Int)) (x : Int) l.length * (x : Int) + (c : Int) = (c : Int) + (x : Int) * evI (fun i => ((l.getD i 0 : Nat) : Int)) (x : Int) l.length
    rw [Int.mul_comm, Int.add_comm]
theorem powR_cg {p x : Nat} : ∀ k, Cg p (powR p x k : Int) ((x : Int) ^ k)
  | 0 => Cg.rfl'
  | k + 1 => by
    rw [powR]
    refine (Cg.mod _).trans ?_
    rw [Int.natCast_mul, Int.pow_succ]
    exact (powR_cg k).mul Cg.rfl'
theorem evS_cg {p x : Nat} (l : List Nat) : ∀ k, Cg p (evS p l (powR p x) k : Int) (evI (fun i => ((l.getD i 0 : Nat) : Int)) (x : Int) k)
  | 0 => Cg.rfl'
  | k + 1 => by
    rw [evS, evI]
    refine (Cg.mod _).trans (Cg.trans (Cg.of_eq (Int.natCast_add _ _)) ?_)
    refine (evS_cg l k).add ((Cg.mod _).trans ?_)
    rw [Int.natCast_mul]
    exact Cg.rfl'.mul (powR_cg k)
theorem evalP_cg {p x : Nat} (l : List Nat) : Cg p (evalP p l x : Int) (evI (fun i => ((l.getD i 0 : Nat) : Int)) (x : Int) l.length) := evS_cg l _
theorem evalP_lt {p : Nat} (hp : 0 < p) (l : List Nat) (x : Nat) : evalP p l x < p := by
  rw [evalP]
  cases l.length with
  | zero => exact hp
  | succ k => exact Nat.mod_lt _ hp

/-- The inverse powers of a root of unity. -/
theorem inv_turn {p n i : Nat} {w v : Int} (h1 : Cg p (w ^ n) 1) (h2 : Cg p (w * v) 1) (hi : i < n) : Cg p (w ^ ((n - i) % n)) (v ^ i) := by
  have h3 : Cg p (w ^ ((n - i) % n) * w ^ i) 1 := by
    rcases Nat.eq_zero_or_pos i with h | h
    · subst h
      rw [Nat.sub_zero, Nat.mod_self]
      exact Cg.of_eq (by simp)
    · rw [Nat.mod_eq_of_lt (by omega), ← Int.pow_add, show n - i + i = n by omega]
      exact h1
  have h4 := inv_pow h2 i
  have h5 : Cg p (w ^ ((n - i) % n)) (w ^ ((n - i) % n) * (v ^ i * w ^ i)) := (Cg.of_eq (Int.mul_one _).symm).trans (Cg.rfl'.mul h4.symm)
  refine h5.trans ((Cg.of_eq ?_).trans ((h3.mul Cg.rfl').trans (Cg.of_eq (Int.one_mul _))))
  rw [Int.mul_comm (v ^ i), Int.mul_assoc]
theorem intR_inv {p j : Nat} (l : List Nat) (h : okP p = true) (hn : LenOk p l.length) (hj : l.length = 2 ^ j) {i : Nat} (hi : i < l.length) : intR p l 1 i = invP p l.length j l i := by
  have hp := okP_lt h
  refine Cg.eq (p := p) ?_ (Nat.mod_lt _ (by omega)) (Nat.mod_lt _ (by omega))
  refine Cg.trans ?_ (invP_cg l h hn hj hi).symm
  refine (Cg.mod _).trans ?_
  rw [Int.natCast_mul, Int.mul_comm]
  have e1 : (1 % p) ^ (p - 2) % p = 1 := by rw [Nat.mod_eq_of_lt (show 1 < p by omega), Nat.one_pow, Nat.mod_eq_of_lt (by omega)]
  rw [e1]
  refine Cg.mul ((geoR_cg i).trans (Cg.of_eq ?_)) ?_
  · rw [show ((1 : Nat) : Int) = 1 from rfl, Int.one_pow, Int.mul_one]
  · rw [intE]
    refine (hornP_cg l).trans (evI_cg (fun _ => Cg.rfl') ?_ _)
    refine (domR_cg _).trans (Cg.trans (Cg.of_eq ?_) (inv_turn (root_one h hn) (inv_root h hn) hi))
    exact Int.one_mul _

/-- The program's row, as a list. -/
def mrowL (L : LayR) (msg masks : List Nat) : List Nat := (List.range (L.block + masks.length)).map (mrowP L msg masks)
def quadL (L : LayR) (q : List Nat) : List Nat := (List.range (L.block + q.length)).map (vanP L.p L.block q q.length)
theorem rowR_eq {L : LayR} (hL : LayOk L) {msg masks : List Nat} (h1 : msg.length = L.block) (h2 : masks.length = L.queries) : rowR L msg masks = mrowL L msg masks := by
  have hp := okP_lt hL.p
  have hb := hL.b1
  have hk := hL.k
  obtain ⟨hlen, j, hj⟩ := layLen hL
  have hlog : L.block.log2 = j := by rw [hj]; exact Nat.log2_two_pow
  have hl1 : (rowR L msg masks).length = L.block + masks.length := by
    rw [rowR, padP_len]
    have h3 := addP_len L.p ((List.range msg.length).map (intR L.p msg 1)) (mulP L.p (zeroP L.p L.block) masks)
    have h4 := mulP_len L.p (zeroP L.p L.block) masks
    rw [zeroP_len] at h4
    rw [List.length_map, List.length_range] at h3
    omega
  refine list_ext0 (by rw [hl1, mrowL, List.length_map, List.length_range]) fun i hi => ?_
  rw [hl1] at hi
  rw [rowR, padP_get, addP_get, range_get, mulZ_van (by omega) (by omega), mrowL, range_get, if_pos hi, mrowP, plusP]
  by_cases h3 : i < L.block
  · rw [if_pos (by omega), if_pos h3, hlog, intR_inv (j := j) msg hL.p (by rw [h1]; exact hlen) (by rw [h1]; exact hj) (by omega), h1, Nat.add_comm]
  · rw [if_neg (by omega), if_neg h3, Nat.zero_add]
    exact Nat.mod_eq_of_lt (vanP_lt (by omega) _ _ _)
theorem quadR_eq {L : LayR} (hL : LayOk L) {q : List Nat} (h : q.length = L.block + 2 * L.queries - 1) : quadR L q = quadL L q := by
  have hp := okP_lt hL.p
  have hb := hL.b1
  have hk := hL.k
  have hl1 : (quadR L q).length = L.block + q.length := by
    rw [quadR, padP_len]
    have h4 := mulP_len L.p (zeroP L.p L.block) q
    rw [zeroP_len] at h4
    omega
  refine list_ext0 (by rw [hl1, quadL, List.length_map, List.length_range]) fun i hi => ?_
  rw [hl1] at hi
  rw [quadR, padP_get, mulZ_van (by omega) (by omega), quadL, range_get, if_pos hi]
end Go.Proofs.YtefnagiffllhbaaGreat

/- PoM -/
namespace Go.Proofs.YtefnagiffllhbaaGreat

theorem evI_plus {p nb : Nat} (A B : Nat → Nat) (x : Int) : ∀ n, Cg p (evI (fun k => (plusP p nb A B k : Int)) x n) (evI (fun k => (A k : Int)) x n + evI (fun k => (B k : Int)) x (min n nb))
  | 0 => by rw [Nat.zero_min]; exact Cg.rfl'
  | n + 1 => by
    have ih := evI_plus A B x (p := p) (nb := nb) n
    rw [evI, evI]
    by_cases h : n < nb
    · rw [show min (n + 1) nb = n + 1 by omega, evI, plusP, if_pos h]
      rw [show min n nb = n by omega] at ih
      refine (ih.add (((Cg.mod (A n + B n)).trans (Cg.of_eq (Int.natCast_add _ _))).mul (Cg.rfl' (x := x ^ n)))).trans (Cg.of_eq ?_)
      rw [Int.add_mul]
      omega
    · rw [show min (n + 1) nb = nb by omega, plusP, if_neg h]
      rw [show min n nb = nb by omega] at ih
      exact (ih.add Cg.rfl').trans (Cg.of_eq (by omega))
theorem evI_range (f : Nat → Nat) (x : Int) (n : Nat) : evI (fun i => ((((List.range n).map f).getD i 0 : Nat) : Int)) x n = evI (fun i => (f i : Int)) x n :=
  evI_same x n fun i hi => by rw [range_get, if_pos hi]
theorem root_pow {p n : Nat} (h : okP p = true) (hn : LenOk p n) (k : Nat) : Cg p (((rootP p n : Int) ^ k) ^ n) 1 := by
  rw [← Int.pow_mul, Nat.mul_comm, Int.pow_mul]
  exact ((root_one h hn).pow k).trans (Cg.of_eq Int.one_pow)
theorem domR_one {p n k : Nat} : Cg p (domR p 1 n k : Int) ((rootP p n : Int) ^ k) := domR_cg k |>.trans (Cg.of_eq (Int.one_mul _))

theorem less_one {p : Nat} {x : Int} (h : Cg p x 1) : Cg p (x - 1) 0 := by
  obtain ⟨c, hc⟩ := h
  exact ⟨c, by rw [← hc]; omega⟩

/-- The polynomial of a row takes the message's values at the points of the elements. -/
theorem row_val {L : LayR} (hL : LayOk L) {msg masks : List Nat} (hm : ∀ i, msg.getD i 0 < L.p) {k : Nat} (hk : k < L.block) : evalP L.p (mrowL L msg masks) (domR L.p 1 L.block k) = msg.getD k 0 := by
  have hp := okP_lt hL.p
  obtain ⟨hlen, j, hj⟩ := layLen hL
  have hlog : L.block.log2 = j := by rw [hj]; exact Nat.log2_two_pow
  refine Cg.eq (p := L.p) ?_ (evalP_lt (by omega) _ _) (hm k)
  refine (evalP_cg _).trans ?_
  have hl : (mrowL L msg masks).length = L.block + masks.length := by rw [mrowL, List.length_map, List.length_range]
  rw [hl, mrowL, evI_range]
  refine (evI_cg (fun _ => Cg.rfl') domR_one _).trans ?_
  refine (evI_plus _ _ _ _).trans ?_
  rw [show min (L.block + masks.length) L.block = L.block by omega]
  have hv := vanP_ev (p := L.p) (b := L.block) (by omega) masks ((rootP L.p L.block : Int) ^ k) masks.length masks.length (Nat.le_refl _)
  have h0 : Cg L.p (((rootP L.p L.block : Int) ^ k) ^ L.block - 1) 0 := less_one (root_pow hL.p hlen k)
  have hi := invP_val (q := k) msg hL.p hlen hj hk
  rw [hlog]
  refine ((hv.trans (h0.mul Cg.rfl')).add hi).trans (Cg.of_eq ?_)
  rw [Int.zero_mul, Int.zero_add]
theorem quad_val {L : LayR} (hL : LayOk L) (q : List Nat) (k : Nat) : evalP L.p (quadL L q) (domR L.p 1 L.block k) = 0 := by
  have hp := okP_lt hL.p
  obtain ⟨hlen, j, hj⟩ := layLen hL
  refine Cg.eq (p := L.p) ?_ (evalP_lt (by omega) _ _) (by omega)
  refine (evalP_cg _).trans ?_
  have hl : (quadL L q).length = L.block + q.length := by rw [quadL, List.length_map, List.length_range]
  rw [hl, quadL, evI_range]
  refine (evI_cg (fun _ => Cg.rfl') domR_one _).trans ?_
  have hv := vanP_ev (p := L.p) (b := L.block) (by omega) q ((rootP L.p L.block : Int) ^ k) q.length q.length (Nat.le_refl _)
  have h0 : Cg L.p (((rootP L.p L.block : Int) ^ k) ^ L.block - 1) 0 := less_one (root_pow hL.p hlen k)
  refine (hv.trans (h0.mul Cg.rfl')).trans (Cg.of_eq ?_)
  rw [Int.zero_mul]
  rfl

/-- The sum of the values at the points of the elements. -/
def sumV (p : Nat) (f : Nat → Nat) : Nat → Nat
  | 0 => 0
  | k + 1 => (sumV p f k + f k) % p
theorem sumV_cg {p : Nat} (f : Nat → Nat) : ∀ k, Cg p (sumV p f k : Int) (sumI (fun i => (f i : Int)) k)
  | 0 => Cg.rfl'
  | k + 1 => by
    rw [sumV, sumI]
    exact (Cg.mod _).trans (Cg.trans (Cg.of_eq (Int.natCast_add _ _)) ((sumV_cg f k).add Cg.rfl'))
theorem sumV_lt {p : Nat} (hp : 0 < p) (f : Nat → Nat) : ∀ k, sumV p f k < p
  | 0 => hp
  | _ + 1 => Nat.mod_lt _ hp
theorem pow_mod_root {p n : Nat} {x : Int} (h : Cg p (x ^ n) 1) (i : Nat) : Cg p (x ^ i) (x ^ (i % n)) := by
  have e := Nat.div_add_mod i n
  rw [← e]
  rw [Int.pow_add, Int.pow_mul, Nat.mul_add_mod, Nat.mod_mod]
  exact ((h.pow _).mul Cg.rfl').trans (Cg.of_eq (by rw [Int.one_pow, Int.one_mul]))
theorem ones_at {p n : Nat} (h : okP p = true) (hn : LenOk p n) (i : Nat) : Cg p (evI (fun _ => 1) ((rootP p n : Int) ^ i) n) (if i % n = 0 then (n : Int) else 0) := by
  obtain ⟨j, hj⟩ := hn.two
  have h1 := pow_mod_root (root_one h hn) i
  refine (evI_cg (fun _ => Cg.rfl') h1 n).trans ?_
  split
  · rename_i h0
    rw [h0, Int.pow_zero]
    exact Cg.of_eq (evI_ones n)
  · rename_i h0
    have hlt : i % n < n := Nat.mod_lt _ hn.pos
    rcases root_half h hn hj with h2 | h2
    · subst h2
      rw [hj] at h0 hlt
      omega
    · have := root_sum (p := p) (j := j) (d := i % n) h2 (by omega) (by rw [← hj]; exact hlt)
      rw [← hj] at this
      exact this
theorem sum_values {p n m : Nat} (h : okP p = true) (hn : LenOk p n) (a : Nat → Int) : Cg p (sumI (fun k => evI a ((rootP p n : Int) ^ k) m) n) ((n : Int) * sumI (fun i => if i % n = 0 then a i else 0) m) := by
  have e1 : sumI (fun k => evI a ((rootP p n : Int) ^ k) m) n = sumI (fun i => a i * evI (fun _ => 1) ((rootP p n : Int) ^ i) n) m := by
    have e2 : (fun k => evI a ((rootP p n : Int) ^ k) m) = fun k => sumI (fun i => a i * ((rootP p n : Int) ^ k) ^ i) m := by funext k; rw [evI_sum]
    rw [e2, sumI_swap]
    congr 1
    funext i
    rw [evI_sum, sumI_mul]
    congr 1
    funext k
    rw [Int.one_mul, ← Int.pow_mul, ← Int.pow_mul, Nat.mul_comm]
  rw [e1, sumI_mul]
  refine sumI_cg m fun i _ => ?_
  refine (Cg.rfl'.mul (ones_at h hn i)).trans (Cg.of_eq ?_)
  split
  · rw [Int.mul_comm]
  · rw [Int.mul_zero, Int.mul_zero]
theorem sumI_flat {g : Nat → Int} {s : Nat} : ∀ t, (∀ i, i < t → g (s + i) = 0) → sumI g (s + t) = sumI g s
  | 0, _ => rfl
  | t + 1, h => by
    rw [← Nat.add_assoc, sumI, sumI_flat t fun i hi => h i (by omega), h t (by omega)]
    omega
theorem sum_mults {n : Nat} (hn : 0 < n) (a : Nat → Int) : ∀ q, sumI (fun i => if i % n = 0 then a i else 0) (q * n + 1) = a 0 + sumI (fun k => a ((k + 1) * n)) q
  | 0 => by
    rw [Nat.zero_mul]
    simp [sumI]
  | q + 1 => by
    have h1 := sum_mults hn a q
    have h2 := sumI_flat (g := fun i => if i % n = 0 then a i else 0) (s := q * n + 1) (n - 1) fun i hi => by
      rw [if_neg]
      rw [show q * n + 1 + i = (1 + i) + n * q by rw [Nat.mul_comm]; omega, Nat.add_mul_mod_self_left, Nat.mod_eq_of_lt (by omega)]
      omega
    rw [Nat.succ_mul, show q * n + n + 1 = (q * n + 1 + (n - 1)) + 1 by omega, sumI, h2, h1, show q * n + 1 + (n - 1) = (q + 1) * n by rw [Nat.succ_mul]; omega, sumI]
    rw [if_pos (Nat.mul_mod_left _ _)]
    omega
theorem linA_cg {p b : Nat} (hp : 0 < p) (l : List Nat) : ∀ q, Cg p (linA p b l q : Int) (-(sumI (fun k => ((l.getD ((k + 1) * b - 1) 0 : Nat) : Int)) q))
  | 0 => Cg.rfl'
  | q + 1 => by
    rw [linA, sumI]
    refine (Cg.mod _).trans (Cg.trans (Cg.of_eq (Int.natCast_add _ _)) ?_)
    exact ((linA_cg hp l q).add (negP_cg p _ hp)).trans (Cg.of_eq (by omega))
theorem lin_sum {L : LayR} (hL : LayOk L) (l : List Nat) : sumV L.p (fun k => evalP L.p (mlinP L l) (domR L.p 1 L.block k)) L.block = 0 := by
  have hp := okP_lt hL.p
  have hb := hL.b1
  obtain ⟨hlen, j, hj⟩ := layLen hL
  refine Cg.eq (p := L.p) ?_ (sumV_lt (by omega) _ _) (by omega)
  refine (sumV_cg _ _).trans ?_
  refine (sumI_cg (g := fun k => evI (fun i => (((mlinP L l).getD i 0 : Nat) : Int)) ((rootP L.p L.block : Int) ^ k) (mlinP L l).length) L.block fun k _ => (evalP_cg _).trans (evI_cg (fun _ => Cg.rfl') domR_one _)).trans ?_
  refine (sum_values hL.p hlen _).trans ?_
  have hl : (mlinP L l).length = l.length / L.block * L.block + 1 + l.length % L.block := by
    have := Nat.div_add_mod l.length L.block
    rw [mlinP, List.length_cons, Nat.mul_comm]
    omega
  have hf := sumI_flat (g := fun i => if i % L.block = 0 then (((mlinP L l).getD i 0 : Nat) : Int) else 0) (s := l.length / L.block * L.block + 1) (l.length % L.block) fun i hi => by
    have hm : l.length % L.block < L.block := Nat.mod_lt _ (by omega)
    rw [if_neg]
    rw [show l.length / L.block * L.block + 1 + i = (1 + i) + L.block * (l.length / L.block) by rw [Nat.mul_comm]; omega, Nat.add_mul_mod_self_left, Nat.mod_eq_of_lt (by omega)]
    omega
  rw [hl, hf, sum_mults (by omega)]
  have e0 : ((((mlinP L l).getD 0 0 : Nat) : Int)) = (linA L.p L.block l (l.length / L.block) : Int) := rfl
  have e1 : (fun k => (((mlinP L l).getD ((k + 1) * L.block) 0 : Nat) : Int)) = fun k => ((l.getD ((k + 1) * L.block - 1) 0 : Nat) : Int) := by
    funext k
    have : 0 < (k + 1) * L.block := Nat.mul_pos (by omega) (by omega)
    obtain ⟨c, hc⟩ : ∃ c, (k + 1) * L.block = c + 1 := ⟨(k + 1) * L.block - 1, by omega⟩
    rw [hc, mlinP, Nat.add_sub_cancel]
    rfl
  rw [e0, e1]
  refine (Cg.rfl'.mul (((linA_cg (by omega) l _).add Cg.rfl').trans (Cg.of_eq (Int.add_left_neg _)))).trans (Cg.of_eq ?_)
  rw [Int.mul_zero]
  rfl

theorem accP_ev {p n : Nat} (hn : 0 < n) (l : List Nat) (s : Nat) (x : Int) (hx : Cg p (x ^ n) 1) : ∀ i, Cg p (evI (fun k => (accP p n l s i k : Int)) x n) (evI (fun k => ((l.getD k 0 : Nat) : Int)) ((s : Int) * x) i)
  | 0 => by
    refine Cg.of_eq ?_
    show evI (fun k => ((0 : Nat) : Int)) x n = 0
    rw [evI_sum, ← sumI_zero n]
    congr 1
    funext k
    simp
  | i + 1 => by
    have ih := accP_ev hn l s x hx i
    rw [accP, evI_put _ _ _ _ _ (Nat.mod_lt _ hn), evI]
    refine ih.add ?_
    have h1 : Cg p (((accP p n l s i (i % n) + l.getD i 0 * powI p s i % p) % p : Nat) - (accP p n l s i (i % n) : Int)) (((l.getD i 0 : Nat) : Int) * (s : Int) ^ i) := by
      have h2 : Cg p ((l.getD i 0 * powI p s i % p : Nat) : Int) (((l.getD i 0 : Nat) : Int) * (s : Int) ^ i) := (Cg.mod _).trans (Cg.trans (Cg.of_eq (Int.natCast_mul _ _)) (Cg.rfl'.mul (powI_cg p s i)))
      have h3 := ((Cg.mod (p := p) (accP p n l s i (i % n) + l.getD i 0 * powI p s i % p)).trans (Cg.trans (Cg.of_eq (Int.natCast_add _ _)) (Cg.rfl'.add h2))).add (Cg.rfl' (x := -(accP p n l s i (i % n) : Int)))
      exact Cg.trans (Cg.of_eq (by omega)) (h3.trans (Cg.of_eq (by omega)))
    refine (h1.mul (pow_mod_root hx i).symm).trans (Cg.of_eq ?_)
    rw [Int.mul_pow, Int.mul_assoc]
/-- The program's values at the points of the columns are the document's. -/
theorem evaP_eq {p n j s k : Nat} (h : okP p = true) (hn : LenOk p n) (hj : n = 2 ^ j) (l : List Nat) (hk : k < n) : evaP p n j l s k = evalP p l (domR p s n k) := by
  have hp := okP_lt h
  refine Cg.eq (p := p) ?_ (evaP_lt (by omega) _ _ _ _ _) (evalP_lt (by omega) _ _)
  have h1 := fftP_ev p (by omega) j (accP p n l (s % p) l.length) (rootP p n) (root_half h hn hj) k (by rw [← hj]; exact hk)
  rw [← hj] at h1
  refine h1.trans ((accP_ev hn.pos l _ _ (root_pow h hn k) _).trans (Cg.trans ?_ (evalP_cg l).symm))
  exact evI_cg (fun _ => Cg.rfl') ((((Cg.mod s).mul Cg.rfl')).trans (domR_cg k).symm) _
end Go.Proofs.YtefnagiffllhbaaGreat

/- Case -/
namespace Go.Proofs.YtefnagiffllhbaaGreat
open Go.RowKit

theorem cellsOf_case24 : Tryz.prog.cellsOf 30 = 8 := by kernel_rfl
theorem cellsOf_params : Tryz.prog.cellsOf 27 = 3 := by kernel_rfl
theorem cellsOf_lists : Tryz.prog.cellsOf 37 = 1 := by kernel_rfl

/-- What a case reads as. -/
structure CaseIn (w : World) (p : Nat) (pub vars : Int) (A B : Option Addr) (n c m d : Nat) (rows : List RowR) (ws : List Nat) : Prop where
  p : p < 18446744073709551616
  rows : RSl 3 RRow w [.slice A n c] rows
  ws : RWd w [.slice B m d] ws
theorem fits_case24 {w : World} {cs : List Value} (hl : cs.length = 8) (h : Fits Tryz.prog w 30 cs) : ∃ (p : Nat) (pub vars : Int) (A B : Option Addr) (n c m d : Nat) (rows : List RowR) (ws : List Nat) (bl bw qs : Int), cs = (caseCs p pub vars (.slice A n c) bl bw qs (.slice B m d)).toList ∧ CaseIn w p pub vars A B n c m d rows ws := by
  match cs, hl with
  | [x0, x1, x2, x3, x4, x5, x6, x7], _ =>
    obtain ⟨t, y, ht, h1, h2, h3, h4⟩ := fits_RTab rfl (fits_field (i := 0) Tryz.underlying30 rfl rfl cellsOf_tab h)
    have hx := fits_field (i := 1) Tryz.underlying30 rfl rfl cellsOf_params h
    obtain ⟨a, ha, -⟩ := fits_i64 Tryz.underlying3 (fits_field (i := 0) Tryz.underlying27 rfl rfl cellsOf_int hx)
    obtain ⟨b, hb, -⟩ := fits_i64 Tryz.underlying3 (fits_field (i := 1) Tryz.underlying27 rfl rfl cellsOf_int hx)
    obtain ⟨e, he, -⟩ := fits_i64 Tryz.underlying3 (fits_field (i := 2) Tryz.underlying27 rfl rfl cellsOf_int hx)
    obtain ⟨ws, hw⟩ := fits_RWd Tryz.underlying28 Tryz.underlying22 cellsOf_u64 (fits_field (i := 2) Tryz.underlying30 rfl rfl cellsOf_words h)
    simp at ht ha hb he hw
    obtain ⟨rfl, rfl, rfl, rfl⟩ := ht
    subst ha hb he
    obtain ⟨A, n, c, rfl⟩ := RSl.slc h4
    have hw2 := hw
    obtain ⟨B, m, d, he, -⟩ := hw
    simp at he
    subst he
    exact ⟨t.p, t.pub, t.vars, A, B, n, c, m, d, t.rows, ws, a, b, e, rfl, h1, h4, hw2⟩
theorem open_case24 {w : World} {cs0 : Array Value} (f0 : Fits Tryz.prog w 30 (Value.agg cs0).cells.toList) :
    ∃ (p : Nat) (pub vars : Int) (A B : Option Addr) (n c m d : Nat) (rows : List RowR) (ws : List Nat) (bl bw qs : Int), cs0 = caseCs p pub vars (.slice A n c) bl bw qs (.slice B m d) ∧ CaseIn w p pub vars A B n c m d rows ws := by
  have e0 : (Value.agg cs0).cells = cs0 := rfl
  rw [e0] at f0
  have l0 := (fits_struct Tryz.underlying30 f0).1
  rw [cellsOf_case24] at l0
  obtain ⟨p, pub, vars, A, B, n, c, m, d, rows, ws, bl, bw, qs, hc, hin⟩ := fits_case24 l0 f0
  exact ⟨p, pub, vars, A, B, n, c, m, d, rows, ws, bl, bw, qs, Array.toList_inj.1 hc, hin⟩
end Go.Proofs.YtefnagiffllhbaaGreat

/- PoK -/
namespace Go.Proofs.YtefnagiffllhbaaGreat
open Go.RowKit

theorem case_facts {p : Nat} {pub vars : Int} {rows : List RowR} {ws : List Nat} (ht : tabOk p pub vars rows = true) (ha : asgOk p vars ws = true) :
    ∃ pu : Nat, pub = (pu : Int) ∧ 1 + pu ≤ ws.length ∧ rows.length ≤ 16384 ∧ ∀ x ∈ ws, x < p := by
  simp only [tabOk, Bool.and_eq_true, Bool.not_eq_true', decide_eq_false_iff_not] at ht
  simp only [asgOk, Bool.and_eq_true, Bool.not_eq_true', bne_eq_false_iff_eq, List.all_eq_true] at ha
  obtain ⟨⟨⟨⟨⟨-, h1⟩, h2⟩, -⟩, h4⟩, -⟩ := ht
  obtain ⟨⟨⟨h5, -⟩, -⟩, h6⟩ := ha
  refine ⟨pub.toNat, by omega, by omega, by omega, fun x hx => ?_⟩
  have := h6 x hx
  simp at this
  omega
theorem cutV_len (B : Nat) (v : List Nat) (n : Nat) : (cutV B v n).length = n := by simp [cutV]
theorem cutPre_len (B : Nat) (l : Nat → List Nat) (ps : Nat → Nat) : ∀ i, (cutPre B l ps (i + 1)).length = (cutPre B l ps i).length + ps i := fun i => by rw [cutPre_next, List.length_append, cutV_len]
theorem msgsR_len (L : LayR) (rows : List RowR) (ws : List Nat) (pu : Nat) : (msgsR L rows ws pu).length = L.a + L.b + L.b + L.b := by
  unfold msgsR cutL
  rw [cutPre_len, cutPre_len, cutPre_len, cutPre_len]
  show 0 + L.a + L.b + L.b + L.b = _
  omega
theorem cutL_mem {B : Nat} {l : Nat → List Nat} {ps : Nat → Nat} {r : List Nat} (h : r ∈ cutL B l ps) : ∃ i k, i < 4 ∧ k < ps i ∧ r = cutRow B (l i) k := by
  unfold cutL cutPre at h
  obtain ⟨i, hi, hr⟩ := List.mem_flatMap.1 h
  obtain ⟨k, hk, rfl⟩ := List.mem_map.1 hr
  exact ⟨i, k, List.mem_range.1 hi, List.mem_range.1 hk, rfl⟩
theorem msgsR_row {L : LayR} {rows : List RowR} {ws : List Nat} {pu : Nat} {r : List Nat} (h : r ∈ msgsR L rows ws pu) : r.length = L.block := by
  obtain ⟨i, k, -, -, rfl⟩ := cutL_mem h
  simp [cutRow]
theorem getD_lt {l : List Nat} {p : Nat} (hp : 0 < p) (h : ∀ x ∈ l, x < p) (i : Nat) : l.getD i 0 < p := by
  rw [List.getD_eq_getElem?_getD]
  cases e : l[i]? with
  | none => exact hp
  | some x => exact h x (List.mem_of_getElem? e)
theorem msgsR_lt {L : LayR} {rows : List RowR} {ws : List Nat} {pu : Nat} (hp : 0 < L.p) (hw : ∀ x ∈ ws, x < L.p) {r : List Nat} (h : r ∈ msgsR L rows ws pu) (j : Nat) : r.getD j 0 < L.p := by
  obtain ⟨i, k, hi, -, rfl⟩ := cutL_mem h
  rw [cutRow, range_get]
  split
  · refine getD_lt hp ?_ _
    rcases (show i = 0 ∨ i = 1 ∨ i = 2 ∨ i = 3 by omega) with rfl | rfl | rfl | rfl
    · exact fun x hx => hw x (List.mem_of_mem_drop hx)
    all_goals
      intro x hx
      obtain ⟨r, -, rfl⟩ := List.mem_map.1 hx
      exact linVal_lt hp _ _
  · exact hp

set_option maxRecDepth 100000 in
set_option maxHeartbeats 1000000 in
theorem cp_any (A : Option Addr) (n c : Nat) (l : List Nat) (w : World) (hl : RWd w [.slice A n c] l) (hn : n ≤ 100000) :
    Calls Tryz.prog 13 #[.slice A n c] w fun e w' => ∃ v, e = .returned v ∧ w'.ownsRow w.heap.size 22 1 v n (U64 l) ∧ Below w.heap.size w w' := by
  obtain ⟨rfl, h1, h2, hlt, hrd⟩ := lw_at hl
  have hal := (Below.refl w.heap.size w).alloc (Nat.le_refl _) (.cells #[] 22)
  have HL := Lib.hid (show [] ++ l = l from rfl)
  clear hl h1 h2 hlt
  go_enter Tryz.func13, Tryz.ntmps13
  go_wp2_with (at_builtin; refine wpl_append rfl _ _ rfl el_w rfl (own_empty w 22 (Nat.le_refl _)) rfl (hrd.alloc _) (one_U64 l) (by omega) (by simp) ?_)
  intro v1 w1 hown hgrow hblk
  have hB := lw_grow (own_empty w 22 (Nat.le_refl _)) hgrow (by simp)
  replace hB := hal.trans hB
  replace hown : w1.ownsRow w.heap.size 22 1 v1 l.length (U64 l) := by simpa using hown
  go_wp2
  go_ret
  exact ⟨_, rfl, hown, hB⟩

set_option maxRecDepth 100000 in
set_option maxHeartbeats 1000000 in
theorem messages_no (y0 y1 y2 y3 y4 y5 y6 y7 y8 y9 y10 : Int) (p : Nat) (pub vars : Int) (A B : Option Addr) (n c m d : Nat) (bl bw qs : Int) (w : World) :
    Calls Tryz.prog 8 #[.agg #[.int .u64 y0, .int .i64 y1, .int .i64 y2, .int .i64 y3, .int .i64 y4, .int .i64 y5, .int .i64 y6, .int .i64 y7, .int .i64 y8, .int .i64 y9, .int .i64 y10], .agg (caseCs p pub vars (.slice A n c) bl bw qs (.slice B m d)), .bool false] w fun e w' => e = .returned (.slice none 0 0) ∧ Below w.heap.size w w' := by
  unfold caseCs
  obtain ⟨kl, kc, hb0, -⟩ := boxes2 w 34 30 #[.int .u64 y0, .int .i64 y1, .int .i64 y2, .int .i64 y3, .int .i64 y4, .int .i64 y5, .int .i64 y6, .int .i64 y7, .int .i64 y8, .int .i64 y9, .int .i64 y10] #[.int .u64 (p : Int), .int .i64 pub, .int .i64 vars, .slice A n c, .int .i64 bl, .int .i64 bw, .int .i64 qs, .slice B m d]
  go_enter Tryz.func8, Tryz.ntmps8
  go_wp2
  go_ret
  exact ⟨rfl, hb0⟩

set_option maxRecDepth 100000 in
set_option maxHeartbeats 1000000 in
theorem messages_any (L : LayR) (pu : Nat) (vars : Int) (A B : Option Addr) (n c m d : Nat) (rows : List RowR) (ws : List Nat) (bl bw qs : Int) (w : World) (hL : LayOk L) (hr : RSl 3 RRow w [.slice A n c] rows) (hw : RWd w [.slice B m d] ws) (hlen : 1 + pu ≤ ws.length) (hn : rows.length ≤ 16384) :
    Calls Tryz.prog 8 #[.agg (layCs L), .agg (caseCs L.p (pu : Int) vars (.slice A n c) bl bw qs (.slice B m d)), .bool true] w fun e w' => ∃ v, e = .returned v ∧ RRows w' [v] (msgsR L rows ws pu) ∧ Below w.heap.size w w' := by
  have HM := Lib.hid (fun w' (hb : Below w.heap.size w w') => rMessages_any L pu vars A B n c m d rows ws w' hL (kept_RSl kept_RRow _ _ _ _ hb hr) (kept_RWd _ _ _ _ hb hw) hlen hn)
  clear hL hr hw hlen hn
  unfold caseCs
  unfold layCs tabV at *
  obtain ⟨kl, kc, hb0, -⟩ := boxes2 w 34 30 #[.int .u64 (L.p : Int), .int .i64 (L.block : Int), .int .i64 (L.queries : Int), .int .i64 (L.k : Int), .int .i64 (L.n : Int), .int .i64 (L.secret : Int), .int .i64 (L.rows : Int), .int .i64 (L.a : Int), .int .i64 (L.b : Int), .int .i64 (L.b : Int), .int .i64 (L.b : Int)] #[.int .u64 (L.p : Int), .int .i64 (pu : Int), .int .i64 vars, .slice A n c, .int .i64 bl, .int .i64 bw, .int .i64 qs, .slice B m d]
  go_enter Tryz.func8, Tryz.ntmps8
  go_upto_region 1 with fail
  generalize (w.alloc _).alloc _ = w1 at kl kc hb0 ⊢
  have cl := kl.cell
  have cc := kc.cell
  have ll := kl.lt
  have lc := kc.lt
  go_wp2_with fail
  refine (HM.out _ hb0).mono ?_
  rintro e w2 ⟨v, rfl, hv, hbx⟩
  go_wp2
  go_ret
  exact ⟨_, rfl, hv, below_chain hb0 hbx⟩
end Go.Proofs.YtefnagiffllhbaaGreat
