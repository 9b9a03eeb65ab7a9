/-
  Values of polynomials as lists; a polynomial with as many roots as coefficients is zero.
-/
import Derived.Test.YtefnagiffllhbaaJN19
import Derived.Test.YtefnagiffllhbaaJN20
import Derived.Test.YtefnagiffllhbaaJN10
import Derived.Test.YtefnagiffllhbaaJN9
import Derived.Test.YtefnagiffllhbaaJN5
import Derived.Test.YtefnagiffllhbaaJN14
import Derived.Test.YtefnagiffllhbaaJN3

/- PoL -/
namespace Go.Proofs.Ytefnagiffllhbaa

theorem vanP_cg {p b : Nat} (hp : 0 < p) (hb : 0 < b) (l : List Nat) : ∀ i k, Cg p (vanP p b l i k : Int) ((if b ≤ k ∧ k < b + i then ((l.getD (k - b) 0 : Nat) : Int) else 0) - (if k < i then ((l.getD k 0 : Nat) : Int) else 0))
  | 0, k => by
    rw [if_neg (by omega), if_neg (by omega)]
    exact Cg.of_eq rfl
  | i + 1, k => by
    have ih := vanP_cg hp hb l i
    rw [vanP]
    simp only [putF]
    by_cases h1 : k = b + i
    · subst h1
      rw [if_pos rfl, if_neg (by omega), if_pos (by omega), Nat.add_sub_cancel_left]
      have h := ih (b + i)
      rw [if_neg (by omega)] at h
      refine (Cg.mod _).trans (Cg.trans (Cg.of_eq (Int.natCast_add _ _)) ?_)
      by_cases h2 : b + i < i + 1
      · omega
      · rw [if_neg h2]
        rw [if_neg (by omega)] at h
        exact (h.add Cg.rfl').trans (Cg.of_eq (by omega))
    · rw [if_neg h1]
      by_cases h2 : k = i
      · subst h2
        rw [if_pos rfl, if_pos (show k < k + 1 by omega)]
        have h := ih k
        rw [if_neg (by omega : ¬ k < k)] at h
        refine (Cg.mod _).trans (Cg.trans (Cg.of_eq (Int.natCast_add _ _)) ?_)
        have e : (if b ≤ k ∧ k < b + (k + 1) then ((l.getD (k - b) 0 : Nat) : Int) else 0) = (if b ≤ k ∧ k < b + k then ((l.getD (k - b) 0 : Nat) : Int) else 0) := by
          by_cases h3 : b ≤ k
          · rw [if_pos (by omega), if_pos (by omega)]
          · rw [if_neg (by omega), if_neg (by omega)]
        rw [e]
        exact (h.add (negP_cg p _ hp)).trans (Cg.of_eq (by omega))
      · rw [if_neg h2]
        have h := ih k
        refine h.trans (Cg.of_eq ?_)
        congr 1
        · by_cases h3 : b ≤ k ∧ k < b + i
          · rw [if_pos h3, if_pos (by omega)]
          · rw [if_neg h3, if_neg (by omega)]
        · by_cases h3 : k < i
          · rw [if_pos h3, if_pos (by omega)]
          · rw [if_neg h3, if_neg (by omega)]

theorem zeroP_get (p b i : Nat) : (zeroP p b).getD i 0 = if i < b + 1 then zeroF p b i else 0 := range_get _ _ _
theorem mulZ_low {p b : Nat} (hp : 1 < p) (hb : 0 < b) (m : List Nat) (i : Nat) : ∀ j, j < b → Cg p ((mulK p (zeroP p b) m (j + 1)).getD i 0 : Int) (-((m.getD i 0 : Nat) : Int))
  | 0, _ => by
    have hz : (zeroP p b).getD 0 0 = p - 1 := by rw [zeroP_get, if_pos (by omega)]; rfl
    rw [mulK, addP_get, shiftP_get, if_neg (by omega), scaleP_get, hz]
    have e0 : (mulK p (zeroP p b) m 0).getD i 0 = 0 := by rw [mulK]; rfl
    rw [e0, Nat.sub_zero]
    refine (Cg.mod _).trans ?_
    rw [Nat.zero_add]
    refine (Cg.mod _).trans ?_
    rw [Int.natCast_mul]
    have h1 : Cg p ((p - 1 : Nat) : Int) (-1) := ⟨1, by omega⟩
    exact ((Cg.rfl' (x := ((m.getD i 0 : Nat) : Int))).mul h1).trans (Cg.of_eq (by omega))
  | j + 1, hj => by
    have hz : (zeroP p b).getD (j + 1) 0 = 0 := by
      rw [zeroP_get, if_pos (by omega), zeroF, if_neg (by omega), if_neg (by omega)]
    rw [mulK_get_zero _ _ _ _ hz]
    exact (Cg.mod _).trans (mulZ_low hp hb m i j (by omega))
theorem mulZ_cg {p b : Nat} (hp : 1 < p) (hb : 0 < b) (m : List Nat) (i : Nat) : Cg p ((mulP p (zeroP p b) m).getD i 0 : Int) ((if b ≤ i then ((m.getD (i - b) 0 : Nat) : Int) else 0) - ((m.getD i 0 : Nat) : Int)) := by
  have hz : (zeroP p b).getD b 0 = 1 := by rw [zeroP_get, if_pos (by omega), zeroF, if_neg (by omega), if_pos rfl]
  obtain ⟨c, rfl⟩ : ∃ c, b = c + 1 := ⟨b - 1, by omega⟩
  rw [mulP, zeroP_len, mulK, addP_get, shiftP_get, scaleP_get, hz, Nat.mul_one]
  have h := mulZ_low hp hb m i c (by omega)
  refine (Cg.mod _).trans (Cg.trans (Cg.of_eq (Int.natCast_add _ _)) ?_)
  by_cases h1 : i < c + 1
  · rw [if_pos h1, if_neg (by omega)]
    exact (h.add Cg.rfl').trans (Cg.of_eq (by omega))
  · rw [if_neg h1, if_pos (by omega)]
    exact (h.add (Cg.mod _)).trans (Cg.of_eq (by omega))
theorem mulZ_van {p b : Nat} (hp : 1 < p) (hb : 0 < b) (m : List Nat) (i : Nat) : (mulP p (zeroP p b) m).getD i 0 = vanP p b m m.length i := by
  refine Cg.eq (p := p) ((mulZ_cg hp hb m i).trans (Cg.trans (Cg.of_eq ?_) (vanP_cg (by omega) hb m m.length i).symm)) (mulK_lt (by omega) _ _ _ _) (vanP_lt (by omega) _ _ _)
  congr 1
  · by_cases h1 : b ≤ i
    · rw [if_pos h1]
      by_cases h2 : i < b + m.length
      · rw [if_pos ⟨h1, h2⟩]
      · rw [if_neg (by omega), getD_out (by omega)]; rfl
    · rw [if_neg h1, if_neg (by omega)]
  · by_cases h1 : i < m.length
    · rw [if_pos h1]
    · rw [if_neg h1, getD_out (by omega)]; rfl

theorem geoR_cg {p a b : Nat} : ∀ k, Cg p (geoR p a b k : Int) ((a : Int) * (b : Int) ^ k)
  | 0 => Cg.of_eq (by rw [geoR, Int.pow_zero, Int.mul_one])
  | k + 1 => by
    rw [geoR]
    refine (Cg.mod _).trans ?_
    rw [Int.natCast_mul, Int.pow_succ, ← Int.mul_assoc]
    exact (geoR_cg k).mul Cg.rfl'
theorem domR_cg {p s n : Nat} (k : Nat) : Cg p (domR p s n k : Int) ((s : Int) * (rootP p n : Int) ^ k) := (geoR_cg k).trans ((Cg.mod s).mul Cg.rfl')
theorem evI_shift (a : Nat → Int) (x : Int) : ∀ n, evI a x (n + 1) = a 0 + x * evI (fun i => a (i + 1)) x n
  | 0 => by simp [evI]
  | n + 1 => by
    rw [evI, evI_shift a x n, evI, Int.pow_succ]
    grind
theorem hornP_cg {p x : Nat} : ∀ l : List Nat, Cg p (hornP p x l : Int) (evI (fun i => ((l.getD i 0 : Nat) : Int)) (x : Int) l.length)
  | [] => Cg.rfl'
  | c :: l => by
    rw [hornP, List.length_cons, evI_shift]
    refine (Cg.mod _).trans (Cg.trans (Cg.of_eq (Int.natCast_add _ _)) ?_)
    refine (((Cg.mod (hornP p x l * x)).trans (Cg.trans (Cg.of_eq (Int.natCast_mul _ _)) ((hornP_cg l).mul Cg.rfl'))).add Cg.rfl').trans (Cg.of_eq ?_)
    show evI (fun i => ((l.getD i 0 : Nat) : Int)) (x : Int) l.length * (x : Int) + (c : Int) = (c : Int) + (x : Int) * evI (fun i => ((l.getD i 0 : Nat) : Int)) (x : Int) l.length
    rw [Int.mul_comm, Int.add_comm]
theorem powR_cg {p x : Nat} : ∀ k, Cg p (powR p x k : Int) ((x : Int) ^ k)
  | 0 => Cg.rfl'
  | k + 1 => by
    rw [powR]
    refine (Cg.mod _).trans ?_
    rw [Int.natCast_mul, Int.pow_succ]
    exact (powR_cg k).mul Cg.rfl'
theorem evS_cg {p x : Nat} (l : List Nat) : ∀ k, Cg p (evS p l (powR p x) k : Int) (evI (fun i => ((l.getD i 0 : Nat) : Int)) (x : Int) k)
  | 0 => Cg.rfl'
  | k + 1 => by
    rw [evS, evI]
    refine (Cg.mod _).trans (Cg.trans (Cg.of_eq (Int.natCast_add _ _)) ?_)
    refine (evS_cg l k).add ((Cg.mod _).trans ?_)
    rw [Int.natCast_mul]
    exact Cg.rfl'.mul (powR_cg k)
theorem evalP_cg {p x : Nat} (l : List Nat) : Cg p (evalP p l x : Int) (evI (fun i => ((l.getD i 0 : Nat) : Int)) (x : Int) l.length) := evS_cg l _
theorem evalP_lt {p : Nat} (hp : 0 < p) (l : List Nat) (x : Nat) : evalP p l x < p := by
  rw [evalP]
  cases l.length with
  | zero => exact hp
  | succ k => exact Nat.mod_lt _ hp

/-- The inverse powers of a root of unity. -/
theorem inv_turn {p n i : Nat} {w v : Int} (h1 : Cg p (w ^ n) 1) (h2 : Cg p (w * v) 1) (hi : i < n) : Cg p (w ^ ((n - i) % n)) (v ^ i) := by
  have h3 : Cg p (w ^ ((n - i) % n) * w ^ i) 1 := by
    rcases Nat.eq_zero_or_pos i with h | h
    · subst h
      rw [Nat.sub_zero, Nat.mod_self]
      exact Cg.of_eq (by simp)
    · rw [Nat.mod_eq_of_lt (by omega), ← Int.pow_add, show n - i + i = n by omega]
      exact h1
  have h4 := inv_pow h2 i
  have h5 : Cg p (w ^ ((n - i) % n)) (w ^ ((n - i) % n) * (v ^ i * w ^ i)) := (Cg.of_eq (Int.mul_one _).symm).trans (Cg.rfl'.mul h4.symm)
  refine h5.trans ((Cg.of_eq ?_).trans ((h3.mul Cg.rfl').trans (Cg.of_eq (Int.one_mul _))))
  rw [Int.mul_comm (v ^ i), Int.mul_assoc]
theorem intR_inv {p j : Nat} (l : List Nat) (h : okP p = true) (hn : LenOk p l.length) (hj : l.length = 2 ^ j) {i : Nat} (hi : i < l.length) : intR p l 1 i = invP p l.length j l i := by
  have hp := okP_lt h
  refine Cg.eq (p := p) ?_ (Nat.mod_lt _ (by omega)) (Nat.mod_lt _ (by omega))
  refine Cg.trans ?_ (invP_cg l h hn hj hi).symm
  refine (Cg.mod _).trans ?_
  rw [Int.natCast_mul, Int.mul_comm]
  have e1 : (1 % p) ^ (p - 2) % p = 1 := by rw [Nat.mod_eq_of_lt (show 1 < p by omega), Nat.one_pow, Nat.mod_eq_of_lt (by omega)]
  rw [e1]
  refine Cg.mul ((geoR_cg i).trans (Cg.of_eq ?_)) ?_
  · rw [show ((1 : Nat) : Int) = 1 from rfl, Int.one_pow, Int.mul_one]
  · rw [intE]
    refine (hornP_cg l).trans (evI_cg (fun _ => Cg.rfl') ?_ _)
    refine (domR_cg _).trans (Cg.trans (Cg.of_eq ?_) (inv_turn (root_one h hn) (inv_root h hn) hi))
    exact Int.one_mul _

/-- The program's row, as a list. -/
def mrowL (L : LayR) (msg masks : List Nat) : List Nat := (List.range (L.block + masks.length)).map (mrowP L msg masks)
def quadL (L : LayR) (q : List Nat) : List Nat := (List.range (L.block + q.length)).map (vanP L.p L.block q q.length)
theorem rowR_eq {L : LayR} (hL : LayOk L) {msg masks : List Nat} (h1 : msg.length = L.block) (h2 : masks.length = L.queries) : rowR L msg masks = mrowL L msg masks := by
  have hp := okP_lt hL.p
  have hb := hL.b1
  have hk := hL.k
  obtain ⟨hlen, j, hj⟩ := layLen hL
  have hlog : L.block.log2 = j := by rw [hj]; exact Nat.log2_two_pow
  have hl1 : (rowR L msg masks).length = L.block + masks.length := by
    rw [rowR, padP_len]
    have h3 := addP_len L.p ((List.range msg.length).map (intR L.p msg 1)) (mulP L.p (zeroP L.p L.block) masks)
    have h4 := mulP_len L.p (zeroP L.p L.block) masks
    rw [zeroP_len] at h4
    rw [List.length_map, List.length_range] at h3
    omega
  refine list_ext0 (by rw [hl1, mrowL, List.length_map, List.length_range]) fun i hi => ?_
  rw [hl1] at hi
  rw [rowR, padP_get, addP_get, range_get, mulZ_van (by omega) (by omega), mrowL, range_get, if_pos hi, mrowP, plusP]
  by_cases h3 : i < L.block
  · rw [if_pos (by omega), if_pos h3, hlog, intR_inv (j := j) msg hL.p (by rw [h1]; exact hlen) (by rw [h1]; exact hj) (by omega), h1, Nat.add_comm]
  · rw [if_neg (by omega), if_neg h3, Nat.zero_add]
    exact Nat.mod_eq_of_lt (vanP_lt (by omega) _ _ _)
theorem quadR_eq {L : LayR} (hL : LayOk L) {q : List Nat} (h : q.length = L.block + 2 * L.queries - 1) : quadR L q = quadL L q := by
  have hp := okP_lt hL.p
  have hb := hL.b1
  have hk := hL.k
  have hl1 : (quadR L q).length = L.block + q.length := by
    rw [quadR, padP_len]
    have h4 := mulP_len L.p (zeroP L.p L.block) q
    rw [zeroP_len] at h4
    omega
  refine list_ext0 (by rw [hl1, quadL, List.length_map, List.length_range]) fun i hi => ?_
  rw [hl1] at hi
  rw [quadR, padP_get, mulZ_van (by omega) (by omega), quadL, range_get, if_pos hi]
end Go.Proofs.Ytefnagiffllhbaa

/- PoM -/
namespace Go.Proofs.Ytefnagiffllhbaa

theorem evI_plus {p nb : Nat} (A B : Nat → Nat) (x : Int) : ∀ n, Cg p (evI (fun k => (plusP p nb A B k : Int)) x n) (evI (fun k => (A k : Int)) x n + evI (fun k => (B k : Int)) x (min n nb))
  | 0 => by rw [Nat.zero_min]; exact Cg.rfl'
  | n + 1 => by
    have ih := evI_plus A B x (p := p) (nb := nb) n
    rw [evI, evI]
    by_cases h : n < nb
    · rw [show min (n + 1) nb = n + 1 by omega, evI, plusP, if_pos h]
      rw [show min n nb = n by omega] at ih
      refine (ih.add (((Cg.mod (A n + B n)).trans (Cg.of_eq (Int.natCast_add _ _))).mul (Cg.rfl' (x := x ^ n)))).trans (Cg.of_eq ?_)
      rw [Int.add_mul]
      omega
    · rw [show min (n + 1) nb = nb by omega, plusP, if_neg h]
      rw [show min n nb = nb by omega] at ih
      exact (ih.add Cg.rfl').trans (Cg.of_eq (by omega))
theorem evI_range (f : Nat → Nat) (x : Int) (n : Nat) : evI (fun i => ((((List.range n).map f).getD i 0 : Nat) : Int)) x n = evI (fun i => (f i : Int)) x n :=
  evI_same x n fun i hi => by rw [range_get, if_pos hi]
theorem root_pow {p n : Nat} (h : okP p = true) (hn : LenOk p n) (k : Nat) : Cg p (((rootP p n : Int) ^ k) ^ n) 1 := by
  rw [← Int.pow_mul, Nat.mul_comm, Int.pow_mul]
  exact ((root_one h hn).pow k).trans (Cg.of_eq Int.one_pow)
theorem domR_one {p n k : Nat} : Cg p (domR p 1 n k : Int) ((rootP p n : Int) ^ k) := domR_cg k |>.trans (Cg.of_eq (Int.one_mul _))

theorem less_one {p : Nat} {x : Int} (h : Cg p x 1) : Cg p (x - 1) 0 := by
  obtain ⟨c, hc⟩ := h
  exact ⟨c, by rw [← hc]; omega⟩

/-- The polynomial of a row takes the message's values at the points of the elements. -/
theorem row_val {L : LayR} (hL : LayOk L) {msg masks : List Nat} (hm : ∀ i, msg.getD i 0 < L.p) {k : Nat} (hk : k < L.block) : evalP L.p (mrowL L msg masks) (domR L.p 1 L.block k) = msg.getD k 0 := by
  have hp := okP_lt hL.p
  obtain ⟨hlen, j, hj⟩ := layLen hL
  have hlog : L.block.log2 = j := by rw [hj]; exact Nat.log2_two_pow
  refine Cg.eq (p := L.p) ?_ (evalP_lt (by omega) _ _) (hm k)
  refine (evalP_cg _).trans ?_
  have hl : (mrowL L msg masks).length = L.block + masks.length := by rw [mrowL, List.length_map, List.length_range]
  rw [hl, mrowL, evI_range]
  refine (evI_cg (fun _ => Cg.rfl') domR_one _).trans ?_
  refine (evI_plus _ _ _ _).trans ?_
  rw [show min (L.block + masks.length) L.block = L.block by omega]
  have hv := vanP_ev (p := L.p) (b := L.block) (by omega) masks ((rootP L.p L.block : Int) ^ k) masks.length masks.length (Nat.le_refl _)
  have h0 : Cg L.p (((rootP L.p L.block : Int) ^ k) ^ L.block - 1) 0 := less_one (root_pow hL.p hlen k)
  have hi := invP_val (q := k) msg hL.p hlen hj hk
  rw [hlog]
  refine ((hv.trans (h0.mul Cg.rfl')).add hi).trans (Cg.of_eq ?_)
  rw [Int.zero_mul, Int.zero_add]
theorem quad_val {L : LayR} (hL : LayOk L) (q : List Nat) (k : Nat) : evalP L.p (quadL L q) (domR L.p 1 L.block k) = 0 := by
  have hp := okP_lt hL.p
  obtain ⟨hlen, j, hj⟩ := layLen hL
  refine Cg.eq (p := L.p) ?_ (evalP_lt (by omega) _ _) (by omega)
  refine (evalP_cg _).trans ?_
  have hl : (quadL L q).length = L.block + q.length := by rw [quadL, List.length_map, List.length_range]
  rw [hl, quadL, evI_range]
  refine (evI_cg (fun _ => Cg.rfl') domR_one _).trans ?_
  have hv := vanP_ev (p := L.p) (b := L.block) (by omega) q ((rootP L.p L.block : Int) ^ k) q.length q.length (Nat.le_refl _)
  have h0 : Cg L.p (((rootP L.p L.block : Int) ^ k) ^ L.block - 1) 0 := less_one (root_pow hL.p hlen k)
  refine (hv.trans (h0.mul Cg.rfl')).trans (Cg.of_eq ?_)
  rw [Int.zero_mul]
  rfl

/-- The sum of the values at the points of the elements. -/
def sumV (p : Nat) (f : Nat → Nat) : Nat → Nat
  | 0 => 0
  | k + 1 => (sumV p f k + f k) % p
theorem sumV_cg {p : Nat} (f : Nat → Nat) : ∀ k, Cg p (sumV p f k : Int) (sumI (fun i => (f i : Int)) k)
  | 0 => Cg.rfl'
  | k + 1 => by
    rw [sumV, sumI]
    exact (Cg.mod _).trans (Cg.trans (Cg.of_eq (Int.natCast_add _ _)) ((sumV_cg f k).add Cg.rfl'))
theorem sumV_lt {p : Nat} (hp : 0 < p) (f : Nat → Nat) : ∀ k, sumV p f k < p
  | 0 => hp
  | _ + 1 => Nat.mod_lt _ hp
theorem pow_mod_root {p n : Nat} {x : Int} (h : Cg p (x ^ n) 1) (i : Nat) : Cg p (x ^ i) (x ^ (i % n)) := by
  have e := Nat.div_add_mod i n
  rw [← e]
  rw [Int.pow_add, Int.pow_mul, Nat.mul_add_mod, Nat.mod_mod]
  exact ((h.pow _).mul Cg.rfl').trans (Cg.of_eq (by rw [Int.one_pow, Int.one_mul]))
theorem ones_at {p n : Nat} (h : okP p = true) (hn : LenOk p n) (i : Nat) : Cg p (evI (fun _ => 1) ((rootP p n : Int) ^ i) n) (if i % n = 0 then (n : Int) else 0) := by
  obtain ⟨j, hj⟩ := hn.two
  have h1 := pow_mod_root (root_one h hn) i
  refine (evI_cg (fun _ => Cg.rfl') h1 n).trans ?_
  split
  · rename_i h0
    rw [h0, Int.pow_zero]
    exact Cg.of_eq (evI_ones n)
  · rename_i h0
    have hlt : i % n < n := Nat.mod_lt _ hn.pos
    rcases root_half h hn hj with h2 | h2
    · subst h2
      rw [hj] at h0 hlt
      omega
    · have := root_sum (p := p) (j := j) (d := i % n) h2 (by omega) (by rw [← hj]; exact hlt)
      rw [← hj] at this
      exact this
theorem sum_values {p n m : Nat} (h : okP p = true) (hn : LenOk p n) (a : Nat → Int) : Cg p (sumI (fun k => evI a ((rootP p n : Int) ^ k) m) n) ((n : Int) * sumI (fun i => if i % n = 0 then a i else 0) m) := by
  have e1 : sumI (fun k => evI a ((rootP p n : Int) ^ k) m) n = sumI (fun i => a i * evI (fun _ => 1) ((rootP p n : Int) ^ i) n) m := by
    have e2 : (fun k => evI a ((rootP p n : Int) ^ k) m) = fun k => sumI (fun i => a i * ((rootP p n : Int) ^ k) ^ i) m := by funext k; rw [evI_sum]
    rw [e2, sumI_swap]
    congr 1
    funext i
    rw [evI_sum, sumI_mul]
    congr 1
    funext k
    rw [Int.one_mul, ← Int.pow_mul, ← Int.pow_mul, Nat.mul_comm]
  rw [e1, sumI_mul]
  refine sumI_cg m fun i _ => ?_
  refine (Cg.rfl'.mul (ones_at h hn i)).trans (Cg.of_eq ?_)
  split
  · rw [Int.mul_comm]
  · rw [Int.mul_zero, Int.mul_zero]
theorem sumI_flat {g : Nat → Int} {s : Nat} : ∀ t, (∀ i, i < t → g (s + i) = 0) → sumI g (s + t) = sumI g s
  | 0, _ => rfl
  | t + 1, h => by
    rw [← Nat.add_assoc, sumI, sumI_flat t fun i hi => h i (by omega), h t (by omega)]
    omega
theorem sum_mults {n : Nat} (hn : 0 < n) (a : Nat → Int) : ∀ q, sumI (fun i => if i % n = 0 then a i else 0) (q * n + 1) = a 0 + sumI (fun k => a ((k + 1) * n)) q
  | 0 => by
    rw [Nat.zero_mul]
    simp [sumI]
  | q + 1 => by
    have h1 := sum_mults hn a q
    have h2 := sumI_flat (g := fun i => if i % n = 0 then a i else 0) (s := q * n + 1) (n - 1) fun i hi => by
      rw [if_neg]
      rw [show q * n + 1 + i = (1 + i) + n * q by rw [Nat.mul_comm]; omega, Nat.add_mul_mod_self_left, Nat.mod_eq_of_lt (by omega)]
      omega
    rw [Nat.succ_mul, show q * n + n + 1 = (q * n + 1 + (n - 1)) + 1 by omega, sumI, h2, h1, show q * n + 1 + (n - 1) = (q + 1) * n by rw [Nat.succ_mul]; omega, sumI]
    rw [if_pos (Nat.mul_mod_left _ _)]
    omega
theorem linA_cg {p b : Nat} (hp : 0 < p) (l : List Nat) : ∀ q, Cg p (linA p b l q : Int) (-(sumI (fun k => ((l.getD ((k + 1) * b - 1) 0 : Nat) : Int)) q))
  | 0 => Cg.rfl'
  | q + 1 => by
    rw [linA, sumI]
    refine (Cg.mod _).trans (Cg.trans (Cg.of_eq (Int.natCast_add _ _)) ?_)
    exact ((linA_cg hp l q).add (negP_cg p _ hp)).trans (Cg.of_eq (by omega))
theorem lin_sum {L : LayR} (hL : LayOk L) (l : List Nat) : sumV L.p (fun k => evalP L.p (mlinP L l) (domR L.p 1 L.block k)) L.block = 0 := by
  have hp := okP_lt hL.p
  have hb := hL.b1
  obtain ⟨hlen, j, hj⟩ := layLen hL
  refine Cg.eq (p := L.p) ?_ (sumV_lt (by omega) _ _) (by omega)
  refine (sumV_cg _ _).trans ?_
  refine (sumI_cg (g := fun k => evI (fun i => (((mlinP L l).getD i 0 : Nat) : Int)) ((rootP L.p L.block : Int) ^ k) (mlinP L l).length) L.block fun k _ => (evalP_cg _).trans (evI_cg (fun _ => Cg.rfl') domR_one _)).trans ?_
  refine (sum_values hL.p hlen _).trans ?_
  have hl : (mlinP L l).length = l.length / L.block * L.block + 1 + l.length % L.block := by
    have := Nat.div_add_mod l.length L.block
    rw [mlinP, List.length_cons, Nat.mul_comm]
    omega
  have hf := sumI_flat (g := fun i => if i % L.block = 0 then (((mlinP L l).getD i 0 : Nat) : Int) else 0) (s := l.length / L.block * L.block + 1) (l.length % L.block) fun i hi => by
    have hm : l.length % L.block < L.block := Nat.mod_lt _ (by omega)
    rw [if_neg]
    rw [show l.length / L.block * L.block + 1 + i = (1 + i) + L.block * (l.length / L.block) by rw [Nat.mul_comm]; omega, Nat.add_mul_mod_self_left, Nat.mod_eq_of_lt (by omega)]
    omega
  rw [hl, hf, sum_mults (by omega)]
  have e0 : ((((mlinP L l).getD 0 0 : Nat) : Int)) = (linA L.p L.block l (l.length / L.block) : Int) := rfl
  have e1 : (fun k => (((mlinP L l).getD ((k + 1) * L.block) 0 : Nat) : Int)) = fun k => ((l.getD ((k + 1) * L.block - 1) 0 : Nat) : Int) := by
    funext k
    have : 0 < (k + 1) * L.block := Nat.mul_pos (by omega) (by omega)
    obtain ⟨c, hc⟩ : ∃ c, (k + 1) * L.block = c + 1 := ⟨(k + 1) * L.block - 1, by omega⟩
    rw [hc, mlinP, Nat.add_sub_cancel]
    rfl
  rw [e0, e1]
  refine (Cg.rfl'.mul (((linA_cg (by omega) l _).add Cg.rfl').trans (Cg.of_eq (Int.add_left_neg _)))).trans (Cg.of_eq ?_)
  rw [Int.mul_zero]
  rfl

theorem accP_ev {p n : Nat} (hn : 0 < n) (l : List Nat) (s : Nat) (x : Int) (hx : Cg p (x ^ n) 1) : ∀ i, Cg p (evI (fun k => (accP p n l s i k : Int)) x n) (evI (fun k => ((l.getD k 0 : Nat) : Int)) ((s : Int) * x) i)
  | 0 => by
    refine Cg.of_eq ?_
    show evI (fun k => ((0 : Nat) : Int)) x n = 0
    rw [evI_sum, ← sumI_zero n]
    congr 1
    funext k
    simp
  | i + 1 => by
    have ih := accP_ev hn l s x hx i
    rw [accP, evI_put _ _ _ _ _ (Nat.mod_lt _ hn), evI]
    refine ih.add ?_
    have h1 : Cg p (((accP p n l s i (i % n) + l.getD i 0 * powI p s i % p) % p : Nat) - (accP p n l s i (i % n) : Int)) (((l.getD i 0 : Nat) : Int) * (s : Int) ^ i) := by
      have h2 : Cg p ((l.getD i 0 * powI p s i % p : Nat) : Int) (((l.getD i 0 : Nat) : Int) * (s : Int) ^ i) := (Cg.mod _).trans (Cg.trans (Cg.of_eq (Int.natCast_mul _ _)) (Cg.rfl'.mul (powI_cg p s i)))
      have h3 := ((Cg.mod (p := p) (accP p n l s i (i % n) + l.getD i 0 * powI p s i % p)).trans (Cg.trans (Cg.of_eq (Int.natCast_add _ _)) (Cg.rfl'.add h2))).add (Cg.rfl' (x := -(accP p n l s i (i % n) : Int)))
      exact Cg.trans (Cg.of_eq (by omega)) (h3.trans (Cg.of_eq (by omega)))
    refine (h1.mul (pow_mod_root hx i).symm).trans (Cg.of_eq ?_)
    rw [Int.mul_pow, Int.mul_assoc]
/-- The program's values at the points of the columns are the document's. -/
theorem evaP_eq {p n j s k : Nat} (h : okP p = true) (hn : LenOk p n) (hj : n = 2 ^ j) (l : List Nat) (hk : k < n) : evaP p n j l s k = evalP p l (domR p s n k) := by
  have hp := okP_lt h
  refine Cg.eq (p := p) ?_ (evaP_lt (by omega) _ _ _ _ _) (evalP_lt (by omega) _ _)
  have h1 := fftP_ev p (by omega) j (accP p n l (s % p) l.length) (rootP p n) (root_half h hn hj) k (by rw [← hj]; exact hk)
  rw [← hj] at h1
  refine h1.trans ((accP_ev hn.pos l _ _ (root_pow h hn k) _).trans (Cg.trans ?_ (evalP_cg l).symm))
  exact evI_cg (fun _ => Cg.rfl') ((((Cg.mod s).mul Cg.rfl')).trans (domR_cg k).symm) _
end Go.Proofs.Ytefnagiffllhbaa

/- Case -/
namespace Go.Proofs.Ytefnagiffllhbaa
open Go.RowKit

theorem cellsOf_case24 : Try.prog.cellsOf 30 = 8 := by kernel_rfl
theorem cellsOf_params : Try.prog.cellsOf 27 = 3 := by kernel_rfl
theorem cellsOf_lists : Try.prog.cellsOf 37 = 1 := by kernel_rfl

/-- What a case reads as. -/
structure CaseIn (w : World) (p : Nat) (pub vars : Int) (A B : Option Addr) (n c m d : Nat) (rows : List RowR) (ws : List Nat) : Prop where
  p : p < 18446744073709551616
  rows : RSl 3 RRow w [.slice A n c] rows
  ws : RWd w [.slice B m d] ws
theorem fits_case24 {w : World} {cs : List Value} (hl : cs.length = 8) (h : Fits Try.prog w 30 cs) : ∃ (p : Nat) (pub vars : Int) (A B : Option Addr) (n c m d : Nat) (rows : List RowR) (ws : List Nat) (bl bw qs : Int), cs = (caseCs p pub vars (.slice A n c) bl bw qs (.slice B m d)).toList ∧ CaseIn w p pub vars A B n c m d rows ws := by
  match cs, hl with
  | [x0, x1, x2, x3, x4, x5, x6, x7], _ =>
    obtain ⟨t, y, ht, h1, h2, h3, h4⟩ := fits_RTab rfl (fits_field (i := 0) Try.underlying30 rfl rfl cellsOf_tab h)
    have hx := fits_field (i := 1) Try.underlying30 rfl rfl cellsOf_params h
    obtain ⟨a, ha, -⟩ := fits_i64 Try.underlying3 (fits_field (i := 0) Try.underlying27 rfl rfl cellsOf_int hx)
    obtain ⟨b, hb, -⟩ := fits_i64 Try.underlying3 (fits_field (i := 1) Try.underlying27 rfl rfl cellsOf_int hx)
    obtain ⟨e, he, -⟩ := fits_i64 Try.underlying3 (fits_field (i := 2) Try.underlying27 rfl rfl cellsOf_int hx)
    obtain ⟨ws, hw⟩ := fits_RWd Try.underlying28 Try.underlying22 cellsOf_u64 (fits_field (i := 2) Try.underlying30 rfl rfl cellsOf_words h)
    simp at ht ha hb he hw
    obtain ⟨rfl, rfl, rfl, rfl⟩ := ht
    subst ha hb he
    obtain ⟨A, n, c, rfl⟩ := RSl.slc h4
    have hw2 := hw
    obtain ⟨B, m, d, he, -⟩ := hw
    simp at he
    subst he
    exact ⟨t.p, t.pub, t.vars, A, B, n, c, m, d, t.rows, ws, a, b, e, rfl, h1, h4, hw2⟩
theorem open_case24 {w : World} {cs0 : Array Value} (f0 : Fits Try.prog w 30 (Value.agg cs0).cells.toList) :
    ∃ (p : Nat) (pub vars : Int) (A B : Option Addr) (n c m d : Nat) (rows : List RowR) (ws : List Nat) (bl bw qs : Int), cs0 = caseCs p pub vars (.slice A n c) bl bw qs (.slice B m d) ∧ CaseIn w p pub vars A B n c m d rows ws := by
  have e0 : (Value.agg cs0).cells = cs0 := rfl
  rw [e0] at f0
  have l0 := (fits_struct Try.underlying30 f0).1
  rw [cellsOf_case24] at l0
  obtain ⟨p, pub, vars, A, B, n, c, m, d, rows, ws, bl, bw, qs, hc, hin⟩ := fits_case24 l0 f0
  exact ⟨p, pub, vars, A, B, n, c, m, d, rows, ws, bl, bw, qs, Array.toList_inj.1 hc, hin⟩
end Go.Proofs.Ytefnagiffllhbaa

/- PoK -/
namespace Go.Proofs.Ytefnagiffllhbaa
open Go.RowKit

theorem case_facts {p : Nat} {pub vars : Int} {rows : List RowR} {ws : List Nat} (ht : tabOk p pub vars rows = true) (ha : asgOk p vars ws = true) :
    ∃ pu : Nat, pub = (pu : Int) ∧ 1 + pu ≤ ws.length ∧ rows.length ≤ 16384 ∧ ∀ x ∈ ws, x < p := by
  simp only [tabOk, Bool.and_eq_true, Bool.not_eq_true', decide_eq_false_iff_not] at ht
  simp only [asgOk, Bool.and_eq_true, Bool.not_eq_true', bne_eq_false_iff_eq, List.all_eq_true] at ha
  obtain ⟨⟨⟨⟨⟨-, h1⟩, h2⟩, -⟩, h4⟩, -⟩ := ht
  obtain ⟨⟨⟨h5, -⟩, -⟩, h6⟩ := ha
  refine ⟨pub.toNat, by omega, by omega, by omega, fun x hx => ?_⟩
  have := h6 x hx
  simp at this
  omega
theorem cutV_len (B : Nat) (v : List Nat) (n : Nat) : (cutV B v n).length = n := by simp [cutV]
theorem cutPre_len (B : Nat) (l : Nat → List Nat) (ps : Nat → Nat) : ∀ i, (cutPre B l ps (i + 1)).length = (cutPre B l ps i).length + ps i := fun i => by rw [cutPre_next, List.length_append, cutV_len]
theorem msgsR_len (L : LayR) (rows : List RowR) (ws : List Nat) (pu : Nat) : (msgsR L rows ws pu).length = L.a + L.b + L.b + L.b := by
  unfold msgsR cutL
  rw [cutPre_len, cutPre_len, cutPre_len, cutPre_len]
  show 0 + L.a + L.b + L.b + L.b = _
  omega
theorem cutL_mem {B : Nat} {l : Nat → List Nat} {ps : Nat → Nat} {r : List Nat} (h : r ∈ cutL B l ps) : ∃ i k, i < 4 ∧ k < ps i ∧ r = cutRow B (l i) k := by
  unfold cutL cutPre at h
  obtain ⟨i, hi, hr⟩ := List.mem_flatMap.1 h
  obtain ⟨k, hk, rfl⟩ := List.mem_map.1 hr
  exact ⟨i, k, List.mem_range.1 hi, List.mem_range.1 hk, rfl⟩
theorem msgsR_row {L : LayR} {rows : List RowR} {ws : List Nat} {pu : Nat} {r : List Nat} (h : r ∈ msgsR L rows ws pu) : r.length = L.block := by
  obtain ⟨i, k, -, -, rfl⟩ := cutL_mem h
  simp [cutRow]
theorem getD_lt {l : List Nat} {p : Nat} (hp : 0 < p) (h : ∀ x ∈ l, x < p) (i : Nat) : l.getD i 0 < p := by
  rw [List.getD_eq_getElem?_getD]
  cases e : l[i]? with
  | none => exact hp
  | some x => exact h x (List.mem_of_getElem? e)
theorem msgsR_lt {L : LayR} {rows : List RowR} {ws : List Nat} {pu : Nat} (hp : 0 < L.p) (hw : ∀ x ∈ ws, x < L.p) {r : List Nat} (h : r ∈ msgsR L rows ws pu) (j : Nat) : r.getD j 0 < L.p := by
  obtain ⟨i, k, hi, -, rfl⟩ := cutL_mem h
  rw [cutRow, range_get]
  split
  · refine getD_lt hp ?_ _
    rcases (show i = 0 ∨ i = 1 ∨ i = 2 ∨ i = 3 by omega) with rfl | rfl | rfl | rfl
    · exact fun x hx => hw x (List.mem_of_mem_drop hx)
    all_goals
      intro x hx
      obtain ⟨r, -, rfl⟩ := List.mem_map.1 hx
      exact linVal_lt hp _ _
  · exact hp

set_option maxRecDepth 100000 in
set_option maxHeartbeats 1000000 in
theorem cp_any (A : Option Addr) (n c : Nat) (l : List Nat) (w : World) (hl : RWd w [.slice A n c] l) (hn : n ≤ 100000) :
    Calls Try.prog 17 #[.slice A n c] w fun e w' => ∃ v, e = .returned v ∧ w'.ownsRow w.heap.size 22 1 v n (U64 l) ∧ Below w.heap.size w w' := by
  obtain ⟨rfl, h1, h2, hlt, hrd⟩ := lw_at hl
  have hal := (Below.refl w.heap.size w).alloc (Nat.le_refl _) (.cells #[] 22)
  have HL := Lib.hid (show [] ++ l = l from rfl)
  clear hl h1 h2 hlt
  go_enter Try.func17, Try.ntmps17
  go_wp2_with (at_builtin; refine wpl_append rfl _ _ rfl el_w rfl (own_empty w 22 (Nat.le_refl _)) rfl (hrd.alloc _) (one_U64 l) (by omega) (by simp) ?_)
  intro v1 w1 hown hgrow hblk
  have hB := lw_grow (own_empty w 22 (Nat.le_refl _)) hgrow (by simp)
  replace hB := hal.trans hB
  replace hown : w1.ownsRow w.heap.size 22 1 v1 l.length (U64 l) := by simpa using hown
  go_wp2
  go_ret
  exact ⟨_, rfl, hown, hB⟩

set_option maxRecDepth 100000 in
set_option maxHeartbeats 1000000 in
theorem messages_no (y0 y1 y2 y3 y4 y5 y6 y7 y8 y9 y10 : Int) (p : Nat) (pub vars : Int) (A B : Option Addr) (n c m d : Nat) (bl bw qs : Int) (w : World) :
    Calls Try.prog 14 #[.agg #[.int .u64 y0, .int .i64 y1, .int .i64 y2, .int .i64 y3, .int .i64 y4, .int .i64 y5, .int .i64 y6, .int .i64 y7, .int .i64 y8, .int .i64 y9, .int .i64 y10], .agg (caseCs p pub vars (.slice A n c) bl bw qs (.slice B m d)), .bool false] w fun e w' => e = .returned (.slice none 0 0) ∧ Below w.heap.size w w' := by
  unfold caseCs
  obtain ⟨kl, kc, hb0, -⟩ := boxes2 w 33 30 #[.int .u64 y0, .int .i64 y1, .int .i64 y2, .int .i64 y3, .int .i64 y4, .int .i64 y5, .int .i64 y6, .int .i64 y7, .int .i64 y8, .int .i64 y9, .int .i64 y10] #[.int .u64 (p : Int), .int .i64 pub, .int .i64 vars, .slice A n c, .int .i64 bl, .int .i64 bw, .int .i64 qs, .slice B m d]
  go_enter Try.func14, Try.ntmps14
  go_wp2
  go_ret
  exact ⟨rfl, hb0⟩

set_option maxRecDepth 100000 in
set_option maxHeartbeats 1000000 in
theorem messages_any (L : LayR) (pu : Nat) (vars : Int) (A B : Option Addr) (n c m d : Nat) (rows : List RowR) (ws : List Nat) (bl bw qs : Int) (w : World) (hL : LayOk L) (hr : RSl 3 RRow w [.slice A n c] rows) (hw : RWd w [.slice B m d] ws) (hlen : 1 + pu ≤ ws.length) (hn : rows.length ≤ 16384) :
    Calls Try.prog 14 #[.agg (layCs L), .agg (caseCs L.p (pu : Int) vars (.slice A n c) bl bw qs (.slice B m d)), .bool true] w fun e w' => ∃ v, e = .returned v ∧ RRows w' [v] (msgsR L rows ws pu) ∧ Below w.heap.size w w' := by
  have HM := Lib.hid (fun w' (hb : Below w.heap.size w w') => rMessages_any L pu vars A B n c m d rows ws w' hL (kept_RSl kept_RRow _ _ _ _ hb hr) (kept_RWd _ _ _ _ hb hw) hlen hn)
  clear hL hr hw hlen hn
  unfold caseCs
  unfold layCs tabV at *
  obtain ⟨kl, kc, hb0, -⟩ := boxes2 w 33 30 #[.int .u64 (L.p : Int), .int .i64 (L.block : Int), .int .i64 (L.queries : Int), .int .i64 (L.k : Int), .int .i64 (L.n : Int), .int .i64 (L.secret : Int), .int .i64 (L.rows : Int), .int .i64 (L.a : Int), .int .i64 (L.b : Int), .int .i64 (L.b : Int), .int .i64 (L.b : Int)] #[.int .u64 (L.p : Int), .int .i64 (pu : Int), .int .i64 vars, .slice A n c, .int .i64 bl, .int .i64 bw, .int .i64 qs, .slice B m d]
  go_enter Try.func14, Try.ntmps14
  go_upto_region 1 with fail
  generalize (w.alloc _).alloc _ = w1 at kl kc hb0 ⊢
  have cl := kl.cell
  have cc := kc.cell
  have ll := kl.lt
  have lc := kc.lt
  go_wp2_with fail
  refine (HM.out _ hb0).mono ?_
  rintro e w2 ⟨v, rfl, hv, hbx⟩
  go_wp2
  go_ret
  exact ⟨_, rfl, hv, below_chain hb0 hbx⟩
end Go.Proofs.Ytefnagiffllhbaa

/- PoN -/
namespace Go.Proofs.Ytefnagiffllhbaa
open Go.RowKit

theorem padP_lt {l : List Nat} {B n : Nat} (hB : 0 < B) (h : ∀ x ∈ l, x < B) : ∀ x ∈ padP l n, x < B := fun x hx => by
  rcases List.mem_append.1 hx with h' | h'
  · exact h x h'
  · rw [(List.mem_replicate.1 h').2]; exact hB
theorem mulP_lt {p : Nat} (hp : 0 < p) {a b : List Nat} {x : Nat} (h : x ∈ mulP p a b) : x < p := by
  unfold mulP at h
  cases e : a.length with
  | zero => rw [e] at h; cases h
  | succ k => rw [e, mulK] at h; exact trimP_lt hp h
theorem rwd_agree {w u : World} {v : Value} {l : List Nat} (h : RWd w [v] l) (ha : ∀ b, b < w.heap.size → u.heap[b]? = w.heap[b]?) : RWd u [v] l := by
  obtain ⟨A, n, c, he, h1, h2, h3, h4⟩ := h
  refine ⟨A, n, c, he, h1, h2, ⟨h3.1, fun h0 => ?_⟩, h4⟩
  obtain ⟨ad, e, hc⟩ := h3.2 h0
  refine ⟨ad, e, fun j x hj => ?_⟩
  have hx := hc j x hj
  have hb := World.block_lt_of_cell? _ _ hx
  rw [← hx]
  unfold World.cell?
  rw [ha _ hb]
/-- A row that was there before stays apart from what is new. -/
theorem rwx_old {w0 w : World} {gb : Option Nat} {v : Value} {l : List Nat} (h : RWd w0 [v] l) (hb : Below w0.heap.size w0 w) (hg : ∀ q, gb = some q → w0.heap.size ≤ q) : RWx 0 gb w v l := fun u hu =>
  rwd_agree h fun b hlt => (hu b (Nat.zero_le _) (Nat.lt_of_lt_of_le hlt hb.size) fun e => by have := hg b e.symm; omega).trans (hb.block b hlt)
end Go.Proofs.Ytefnagiffllhbaa

/- FldP -/
namespace Go.Proofs.Ytefnagiffllhbaa

/-- The prime factors of p - 1. -/
def facs (p : Nat) : List Nat :=
  if p = 97 then [2, 3] else if p = 193 then [2, 3] else if p = 12289 then [2, 3] else if p = 18446744069414584321 then [2, 3, 5, 17, 257, 65537] else [2]
/-- The generator's power with the exponent (p - 1) / q is not 1. -/
theorem gen_order {p : Nat} (h : okP p = true) : ∀ q ∈ facs p, (p - 1) % q = 0 ∧ sqm p 64 (rowOf p).1 ((p - 1) / q) ≠ 1 ∧ sqm p 64 (rowOf p).1 ((p - 1) / q) < p ∧ (p - 1) / q < 2 ^ 64 := by
  rcases okP_cases h with rfl | rfl | rfl | rfl | rfl | rfl | rfl <;> decide +kernel
/-- p - 1 is a product of these factors. -/
def prodL : List (Nat × Nat) → Nat
  | [] => 1
  | (q, e) :: l => q ^ e * prodL l
def facE (p : Nat) : List (Nat × Nat) :=
  if p = 97 then [(2, 5), (3, 1)] else if p = 193 then [(2, 6), (3, 1)] else if p = 12289 then [(2, 12), (3, 1)] else if p = 18446744069414584321 then [(2, 32), (3, 1), (5, 1), (17, 1), (257, 1), (65537, 1)] else [(2, (rowOf p).2.1)]
theorem facE_ok {p : Nat} (h : okP p = true) : prodL (facE p) = p - 1 ∧ ((facE p).map (·.1)) = facs p := by
  rcases okP_cases h with rfl | rfl | rfl | rfl | rfl | rfl | rfl <;> decide +kernel
/-- These factors are primes. -/
def noDiv (q : Nat) : Nat → Bool
  | 0 => true
  | k + 1 => noDiv q k && (k < 2 || q % k != 0)
theorem noDiv_spec {q : Nat} : ∀ n, noDiv q n = true → ∀ k, 2 ≤ k → k < n → q % k ≠ 0
  | 0, _, k, _, h => by omega
  | n + 1, hn, k, h2, hk => by
    simp [noDiv] at hn
    by_cases e : k = n
    · subst e
      have := hn.2
      omega
    · exact noDiv_spec n hn.1 k h2 (by omega)
theorem facs_prime {p q : Nat} (h : okP p = true) (hq : q ∈ facs p) : 2 ≤ q ∧ q ≤ 65537 := by
  have : ∀ q ∈ facs p, 2 ≤ q ∧ q ≤ 65537 := by
    rcases okP_cases h with rfl | rfl | rfl | rfl | rfl | rfl | rfl <;> decide +kernel
  exact this q hq

/-- The first positive exponent at which the generator's power is 1 divides every such exponent. -/
theorem pow_gcd {p : Nat} {g : Int} (hg : ∃ v, Cg p (g * v) 1) : ∀ (n a b : Nat), a + b ≤ n → Cg p (g ^ a) 1 → Cg p (g ^ b) 1 → Cg p (g ^ Nat.gcd a b) 1
  | 0, a, b, h, ha, hb => by
    have h1 : a = 0 := by omega
    have h2 : b = 0 := by omega
    subst h1 h2
    exact ha
  | n + 1, a, b, h, ha, hb => by
    obtain ⟨v, hv⟩ := hg
    rcases Nat.eq_zero_or_pos a with h0 | h0
    · subst h0; rw [Nat.gcd_zero_left]; exact hb
    rcases Nat.eq_zero_or_pos b with h1 | h1
    · subst h1; rw [Nat.gcd_zero_right]; exact ha
    have cancel : ∀ s t : Nat, Cg p (g ^ (s + t)) 1 → Cg p (g ^ s) 1 → Cg p (g ^ t) 1 := fun s t h1 h2 => by
      rw [Int.pow_add] at h1
      exact ((Cg.of_eq (Int.one_mul _).symm).trans (h2.symm.mul Cg.rfl')).trans h1
    rcases Nat.le_total a b with hab | hab
    · obtain ⟨d, rfl⟩ : ∃ d, b = a + d := ⟨b - a, by omega⟩
      have := pow_gcd ⟨v, hv⟩ n a d (by omega) ha (cancel _ _ hb ha)
      rwa [Nat.gcd_self_add_right]
    · obtain ⟨d, rfl⟩ : ∃ d, a = b + d := ⟨a - b, by omega⟩
      have := pow_gcd ⟨v, hv⟩ n d b (by omega) (cancel _ _ ha hb) hb
      rwa [Nat.gcd_self_add_left]
/-- A divisor of p - 1 that is not p - 1 divides (p - 1) / q for one of the factors. -/
theorem proper_div : ∀ (l : List (Nat × Nat)) (d : Nat), (∀ x ∈ l, ∀ k, k ∣ x.1 → k = 1 ∨ k = x.1) → d ∣ prodL l → d ≠ prodL l → ∃ x ∈ l, d ∣ prodL l / x.1
  | l, d, hp, hd, hne => by
    obtain ⟨m, hm⟩ := hd
    have hm1 : m ≠ 1 := fun e => by rw [e, Nat.mul_one] at hm; exact hne hm.symm
    -- some factor divides m
    have key : ∀ (l' : List (Nat × Nat)), (∀ x ∈ l', ∀ k, k ∣ x.1 → k = 1 ∨ k = x.1) → (∀ x ∈ l', ¬ x.1 ∣ m) → Nat.Coprime m (prodL l') := by
      intro l'
      induction l' with
      | nil => intro _ _; exact Nat.coprime_one_right m
      | cons x l' ih =>
        intro h1 h2
        have hc : Nat.Coprime m x.1 := by
          rcases h1 x (.head _) (Nat.gcd m x.1) (Nat.gcd_dvd_right _ _) with e | e
          · exact e
          · exact absurd (e ▸ Nat.gcd_dvd_left m x.1) (h2 x (.head _))
        exact Nat.Coprime.mul_right (Nat.Coprime.pow_right _ hc) (ih (fun y hy => h1 y (.tail _ hy)) fun y hy => h2 y (.tail _ hy))
    by_cases hx : ∃ x ∈ l, x.1 ∣ m
    · obtain ⟨x, hxl, c, hc⟩ := hx
      refine ⟨x, hxl, ?_⟩
      rcases Nat.eq_zero_or_pos x.1 with h0 | h0
      · rw [h0, Nat.div_zero]
        exact Nat.dvd_zero _
      · rw [hm, hc, ← Nat.mul_assoc, Nat.mul_comm d x.1, Nat.mul_assoc, Nat.mul_div_cancel_left _ h0]
        exact Nat.dvd_mul_right _ _
    · have hco := key l hp fun x hx' hd' => hx ⟨x, hx', hd'⟩
      have hmd : m ∣ prodL l := by rw [hm]; exact Nat.dvd_mul_left _ _
      exact absurd (hco.eq_one_of_dvd hmd) hm1
end Go.Proofs.Ytefnagiffllhbaa

/- FldQ -/
namespace Go.Proofs.Ytefnagiffllhbaa

theorem smallDiv : ∀ q ∈ [2, 3, 5, 17, 257, 65537], ∀ k ∈ List.range 257, q % k = 0 → k = 1 ∨ k = q := by decide +kernel
theorem facs_div {p q : Nat} (h : okP p = true) (hq : q ∈ facs p) : ∀ k, k ∣ q → k = 1 ∨ k = q := by
  have hin : q ∈ [2, 3, 5, 17, 257, 65537] := by
    have : ∀ q ∈ facs p, q ∈ [2, 3, 5, 17, 257, 65537] := by
      rcases okP_cases h with rfl | rfl | rfl | rfl | rfl | rfl | rfl <;> decide +kernel
    exact this q hq
  obtain ⟨h2, hle⟩ := facs_prime h hq
  intro k ⟨c, hc⟩
  rcases Nat.lt_or_ge k 257 with hk | hk
  · exact smallDiv q hin k (List.mem_range.2 hk) (by rw [hc]; exact Nat.mul_mod_right _ _)
  · have hcl : c < 257 := by
      rcases Nat.lt_or_ge c 257 with h' | h'
      · exact h'
      · have := Nat.mul_le_mul hk h'
        omega
    rcases smallDiv q hin c (List.mem_range.2 hcl) (by rw [hc]; exact Nat.mul_mod_left _ _) with h' | h'
    · right; rw [hc, h', Nat.mul_one]
    · left
      rw [h'] at hc
      have : q * 1 = q * k := by rw [Nat.mul_one, Nat.mul_comm]; exact hc
      exact (Nat.eq_of_mul_eq_mul_left (by omega) this).symm
theorem gen_full {p k : Nat} (h : okP p = true) (h0 : 0 < k) (hk : k < p - 1) : ¬ Cg p (((rowOf p).1 : Int) ^ k) 1 := by
  intro hc
  have hp := okP_lt h
  have hinv : ∃ v, Cg p (((rowOf p).1 : Int) * v) 1 := ⟨((rowOf p).1 : Int) ^ (p - 2), by
    rw [Int.mul_comm, ← Int.pow_succ, show (p - 2).succ = p - 1 by omega]
    exact gen_one h⟩
  have hd := pow_gcd hinv _ k (p - 1) (Nat.le_refl _) hc (gen_one h)
  have hdd : Nat.gcd k (p - 1) ∣ p - 1 := Nat.gcd_dvd_right _ _
  have hdk : Nat.gcd k (p - 1) ≤ k := Nat.le_of_dvd h0 (Nat.gcd_dvd_left _ _)
  obtain ⟨e1, e2⟩ := facE_ok h
  have hmem : ∀ x ∈ facE p, x.1 ∈ facs p := fun x hx => by rw [← e2]; exact List.mem_map.2 ⟨x, hx, rfl⟩
  obtain ⟨x, hx, hdx⟩ := proper_div (facE p) (Nat.gcd k (p - 1)) (fun x hx => facs_div h (hmem x hx)) (by rw [e1]; exact hdd) (by rw [e1]; omega)
  rw [e1] at hdx
  obtain ⟨-, g1, g2, g3⟩ := gen_order h x.1 (hmem x hx)
  have hs := sqm_cg p 64 (rowOf p).1 ((p - 1) / x.1) g3
  obtain ⟨c, hc'⟩ := hdx
  have h1 : Cg p (((rowOf p).1 : Int) ^ ((p - 1) / x.1)) 1 := by
    rw [hc', Int.pow_mul]
    exact (hd.pow c).trans (Cg.of_eq Int.one_pow)
  exact g1 (Cg.eq (p := p) (hs.trans h1) g2 (by omega))

/-- No injection into fewer numbers. -/
theorem pigeon : ∀ (n : Nat) (f : Nat → Nat), (∀ i, i < n + 1 → f i < n) → (∀ i j, i < n + 1 → j < n + 1 → f i = f j → i = j) → False
  | 0, f, h, _ => absurd (h 0 (by omega)) (Nat.not_lt_zero _)
  | n + 1, f, h, hi => by
    have hne : ∀ i, i < n + 1 → f i ≠ f (n + 1) := fun i h1 e => by
      have := hi i (n + 1) (by omega) (by omega) e
      omega
    refine pigeon n (fun i => if f i = n then f (n + 1) else f i) (fun i h1 => ?_) fun i j h1 h2 e => ?_
    · split
      · rename_i e
        have h3 := hne i h1
        have h4 := h (n + 1) (by omega)
        omega
      · have := h i (by omega)
        omega
    · change (if f i = n then f (n + 1) else f i) = (if f j = n then f (n + 1) else f j) at e
      by_cases e1 : f i = n <;> by_cases e2 : f j = n
      · exact hi i j (by omega) (by omega) (by omega)
      · rw [if_pos e1, if_neg e2] at e
        exact absurd e.symm (hne j h2)
      · rw [if_neg e1, if_pos e2] at e
        exact absurd e (hne i h1)
      · rw [if_neg e1, if_neg e2] at e
        exact hi i j (by omega) (by omega) e
theorem onto {n : Nat} {f : Nat → Nat} (h : ∀ i, i < n → f i < n) (hi : ∀ i j, i < n → j < n → f i = f j → i = j) {y : Nat} (hy : y < n) : ∃ i, i < n ∧ f i = y := by
  refine Classical.byContradiction fun hno => ?_
  have hne : ∀ i, i < n → f i ≠ y := fun i h1 e => hno ⟨i, h1, e⟩
  obtain ⟨m, rfl⟩ : ∃ m, n = m + 1 := ⟨n - 1, by omega⟩
  refine pigeon m (fun i => if f i = m then y else f i) (fun i h1 => ?_) fun i j h1 h2 e => ?_
  · split
    · rename_i e
      have := hne i h1
      omega
    · have := h i h1
      omega
  · change (if f i = m then y else f i) = (if f j = m then y else f j) at e
    by_cases e1 : f i = m <;> by_cases e2 : f j = m
    · exact hi i j h1 h2 (by omega)
    · rw [if_pos e1, if_neg e2] at e
      exact absurd e.symm (hne j h2)
    · rw [if_neg e1, if_pos e2] at e
      exact absurd e (hne i h1)
    · rw [if_neg e1, if_neg e2] at e
      exact hi i j h1 h2 e

theorem one_ne {p : Nat} (h : okP p = true) : ¬ Cg p (0 : Int) 1 := by
  have hp := okP_lt h
  intro hc
  have := Cg.eq (p := p) (a := 0) (b := 1) hc (by omega) (by omega)
  omega
/-- Each residue that is not zero is a power of the generator. -/
theorem gen_power {p a : Nat} (h : okP p = true) (h0 : 0 < a) (ha : a < p) : ∃ k, (rowOf p).1 ^ k % p = a := by
  have hp := okP_lt h
  have hpos : ∀ i, 0 < (rowOf p).1 ^ i % p := fun i => by
    rcases Nat.eq_zero_or_pos ((rowOf p).1 ^ i % p) with e | e
    · exfalso
      have h1 : Cg p (((rowOf p).1 : Int) ^ i) 0 := by
        have h2 := Cg.mod (p := p) ((rowOf p).1 ^ i)
        rw [e, Int.natCast_pow] at h2
        exact h2.symm
      have h2 : Cg p ((((rowOf p).1 : Int) ^ i) ^ (p - 1)) 1 := by
        rw [← Int.pow_mul, Nat.mul_comm, Int.pow_mul]
        exact ((gen_one h).pow i).trans (Cg.of_eq Int.one_pow)
      have h3 := (h1.pow (p - 1)).symm.trans h2
      rw [Int.zero_pow (by omega)] at h3
      exact one_ne h h3
    · exact e
  obtain ⟨i, -, hi⟩ := onto (n := p - 1) (f := fun i => (rowOf p).1 ^ i % p - 1) (fun i _ => by
      have := hpos i
      have := Nat.mod_lt ((rowOf p).1 ^ i) (show p > 0 by omega)
      show (rowOf p).1 ^ i % p - 1 < p - 1
      omega) (fun i j h1 h2 e => by
      have e' : (rowOf p).1 ^ i % p = (rowOf p).1 ^ j % p := by
        have := hpos i
        have := hpos j
        change (rowOf p).1 ^ i % p - 1 = (rowOf p).1 ^ j % p - 1 at e
        omega
      have key : ∀ i j, i < j → j < p - 1 → (rowOf p).1 ^ i % p = (rowOf p).1 ^ j % p → False := fun i j hij hj e => by
        have c1 : Cg p (((rowOf p).1 : Int) ^ i) (((rowOf p).1 : Int) ^ j) := by
          have h1 := Cg.mod (p := p) ((rowOf p).1 ^ i)
          have h2 := Cg.mod (p := p) ((rowOf p).1 ^ j)
          rw [e] at h1
          rw [Int.natCast_pow] at h1 h2
          exact h1.symm.trans h2
        obtain ⟨d, rfl⟩ : ∃ d, j = i + d := ⟨j - i, by omega⟩
        rw [Int.pow_add] at c1
        have c2 : Cg p (((rowOf p).1 : Int) ^ (i * (p - 2)) * ((rowOf p).1 : Int) ^ i) 1 := by
          rw [← Int.pow_add, show i * (p - 2) + i = (p - 1) * i by
            rw [Nat.mul_comm (p - 1), ← Nat.mul_succ]
            congr 1
            omega, Int.pow_mul]
          exact ((gen_one h).pow i).trans (Cg.of_eq Int.one_pow)
        have c3 := (Cg.rfl' (x := ((rowOf p).1 : Int) ^ (i * (p - 2)))).mul c1
        rw [← Int.mul_assoc] at c3
        have c4 : Cg p (((rowOf p).1 : Int) ^ d) 1 := ((Cg.of_eq (Int.one_mul _).symm).trans (c2.symm.mul Cg.rfl')).trans (c3.symm.trans c2)
        exact gen_full h (by omega) (by omega) c4
      rcases Nat.lt_trichotomy i j with hlt | heq | hgt
      · exact absurd e' fun e => key i j hlt h2 e
      · exact heq
      · exact absurd e'.symm fun e => key j i hgt h1 e) (y := a - 1) (by omega)
  refine ⟨i, ?_⟩
  have := hpos i
  change (rowOf p).1 ^ i % p - 1 = a - 1 at hi
  omega
theorem inv_nat {p a : Nat} (h : okP p = true) (h0 : 0 < a) (ha : a < p) : Cg p ((a : Int) * ((a ^ (p - 2) % p : Nat) : Int)) 1 := by
  have hp := okP_lt h
  obtain ⟨k, hk⟩ := gen_power h h0 ha
  have h1 : Cg p (a : Int) (((rowOf p).1 : Int) ^ k) := by
    have := Cg.mod (p := p) ((rowOf p).1 ^ k)
    rw [hk, Int.natCast_pow] at this
    exact this
  refine (Cg.rfl'.mul (Cg.mod _)).trans ?_
  rw [Int.natCast_pow, Int.mul_comm, ← Int.pow_succ, show (p - 2).succ = p - 1 by omega]
  refine (h1.pow _).trans ?_
  rw [← Int.pow_mul, Nat.mul_comm, Int.pow_mul]
  exact ((gen_one h).pow k).trans (Cg.of_eq Int.one_pow)
/-- Inverses of numbers that are not reduced. -/
theorem inv_any {p a : Nat} (h : okP p = true) (h0 : ¬ Cg p (a : Int) 0) : Cg p ((a : Int) * ((a ^ (p - 2) % p : Nat) : Int)) 1 := by
  have hp := okP_lt h
  have h1 : a % p ≠ 0 := fun e => h0 (by
    have := Cg.mod (p := p) a
    rw [e] at this
    exact this.symm)
  have := inv_nat h (Nat.pos_of_ne_zero h1) (Nat.mod_lt a (by omega))
  rw [← Nat.pow_mod] at this
  exact ((Cg.mod a).symm.mul Cg.rfl').trans this
theorem inv_int {p : Nat} {x : Int} (h : okP p = true) (h0 : ¬ Cg p x 0) : ∃ v, Cg p (x * v) 1 := by
  have hp := okP_lt h
  obtain ⟨a, ha⟩ : ∃ a : Nat, (a : Int) = x % (p : Int) := ⟨(x % (p : Int)).toNat, Int.toNat_of_nonneg (Int.emod_nonneg _ (by omega))⟩
  have hx : Cg p x (a : Int) := ⟨x / (p : Int), by rw [ha]; have := Int.mul_ediv_add_emod x (p : Int); omega⟩
  exact ⟨_, (hx.mul Cg.rfl').trans (inv_any h fun e => h0 (hx.trans e))⟩
theorem mul_zero_cg {p : Nat} {x y : Int} (h : okP p = true) (hxy : Cg p (x * y) 0) : Cg p x 0 ∨ Cg p y 0 := by
  by_cases hx : Cg p x 0
  · exact .inl hx
  · obtain ⟨v, hv⟩ := inv_int h hx
    refine .inr ?_
    have h1 : Cg p y (v * (x * y)) := (Cg.of_eq (Int.one_mul y).symm).trans ((hv.symm.mul Cg.rfl').trans (Cg.of_eq (by rw [Int.mul_comm x v, Int.mul_assoc])))
    exact h1.trans ((Cg.rfl'.mul hxy).trans (Cg.of_eq (Int.mul_zero _)))
end Go.Proofs.Ytefnagiffllhbaa

/- PolE -/
namespace Go.Proofs.Ytefnagiffllhbaa

/-- The coefficients, as integers. -/
def cfI (l : List Nat) (i : Nat) : Int := ((l.getD i 0 : Nat) : Int)
def evL (l : List Nat) (x : Int) : Int := evI (cfI l) x l.length
theorem evI_more {a : Nat → Int} {x : Int} {m : Nat} (h : ∀ i, m ≤ i → a i = 0) : ∀ t, evI a x (m + t) = evI a x m
  | 0 => rfl
  | t + 1 => by
    rw [← Nat.add_assoc, evI, evI_more h t, h (m + t) (by omega), Int.zero_mul, Int.add_zero]
theorem evL_ext (l : List Nat) (x : Int) {n : Nat} (h : l.length ≤ n) : evI (cfI l) x n = evL l x := by
  obtain ⟨t, rfl⟩ : ∃ t, n = l.length + t := ⟨n - l.length, by omega⟩
  exact evI_more (fun i hi => by rw [cfI, getD_out hi]; rfl) t
theorem evI_add (a b : Nat → Int) (x : Int) : ∀ n, evI (fun i => a i + b i) x n = evI a x n + evI b x n
  | 0 => rfl
  | n + 1 => by rw [evI, evI, evI, evI_add a b x n, Int.add_mul]; omega
theorem evI_mul (c : Int) (a : Nat → Int) (x : Int) : ∀ n, evI (fun i => c * a i) x n = c * evI a x n
  | 0 => by rw [evI, evI, Int.mul_zero]
  | n + 1 => by rw [evI, evI, evI_mul c a x n, Int.mul_add, Int.mul_assoc]
theorem evL_cg {p : Nat} {a b : List Nat} (x : Int) (h : ∀ i, Cg p (cfI a i) (cfI b i)) : Cg p (evL a x) (evL b x) := by
  rw [← evL_ext a x (n := max a.length b.length) (by omega), ← evL_ext b x (n := max a.length b.length) (by omega)]
  exact evI_cg h Cg.rfl' _
theorem ev_trimP {p : Nat} (l : List Nat) (x : Int) : Cg p (evL (trimP p l) x) (evL l x) := evL_cg x fun i => by
  unfold cfI
  rw [trimP_get]
  exact Cg.mod _
theorem ev_padP (l : List Nat) (n : Nat) (x : Int) : evL (padP l n) x = evL l x := by
  rw [← evL_ext l x (n := (padP l n).length) (by rw [padP_len]; omega)]
  unfold evL
  congr 1
  funext i
  unfold cfI
  rw [padP_get]
theorem ev_addP {p : Nat} (a b : List Nat) (x : Int) : Cg p (evL (addP p a b) x) (evL a x + evL b x) := by
  have hl := addP_len p a b
  rw [← evL_ext (addP p a b) x (n := max a.length b.length) hl, ← evL_ext a x (n := max a.length b.length) (by omega), ← evL_ext b x (n := max a.length b.length) (by omega), ← evI_add]
  refine evI_cg (fun i => ?_) Cg.rfl' _
  unfold cfI
  rw [addP_get]
  exact (Cg.mod _).trans (Cg.of_eq (Int.natCast_add _ _))
theorem ev_scaleP {p : Nat} (a : List Nat) (n : Nat) (x : Int) : Cg p (evL (scaleP p a n) x) ((n : Int) * evL a x) := by
  rw [← evL_ext (scaleP p a n) x (scaleP_len p a n), evL, ← evI_mul]
  refine evI_cg (fun i => ?_) Cg.rfl' _
  unfold cfI
  rw [scaleP_get]
  exact (Cg.mod _).trans (Cg.of_eq (by rw [Int.natCast_mul, Int.mul_comm]))
theorem evI_head (a : Nat → Int) (x : Int) (k : Nat) (h : ∀ i, i < k → a i = 0) : ∀ n, evI a x (k + n) = x ^ k * evI (fun i => a (k + i)) x n
  | 0 => by
    show evI a x k = x ^ k * 0
    rw [Int.mul_zero, evI_sum, ← sumI_zero k]
    have : ∀ n, n ≤ k → sumI (fun i => a i * x ^ i) n = sumI (fun _ => 0) n := fun n => by
      induction n with
      | zero => exact fun _ => rfl
      | succ n ih => intro hn; rw [sumI, sumI, ih (by omega), h n (by omega), Int.zero_mul]
    exact this k (Nat.le_refl _)
  | n + 1 => by
    rw [← Nat.add_assoc, evI, evI_head a x k h n, evI, Int.mul_add, Int.pow_add]
    congr 1
    rw [← Int.mul_assoc, ← Int.mul_assoc, Int.mul_comm (a (k + n))]
theorem ev_shiftP (a : List Nat) (k : Nat) (x : Int) : evL (shiftP a k) x = x ^ k * evL a x := by
  have e : (shiftP a k).length = k + a.length := shiftP_len a k
  unfold evL
  rw [e, evI_head _ _ k (fun i hi => by unfold cfI; rw [shiftP_get, if_pos hi]; rfl)]
  congr 2
  funext i
  unfold cfI
  rw [shiftP_get, if_neg (by omega), Nat.add_sub_cancel_left]
theorem ev_mulK {p : Nat} (a b : List Nat) (x : Int) : ∀ k, Cg p (evL (mulK p a b k) x) (evI (cfI a) x k * evL b x)
  | 0 => Cg.of_eq (by rw [mulK, evI, Int.zero_mul]; rfl)
  | k + 1 => by
    rw [mulK, evI, Int.add_mul]
    refine (ev_addP _ _ x).trans ((ev_mulK a b x k).add ?_)
    rw [ev_shiftP]
    refine (Cg.rfl'.mul (ev_scaleP b _ x)).trans (Cg.of_eq ?_)
    rw [← Int.mul_assoc, Int.mul_comm (x ^ k)]
    rfl
theorem ev_mulP {p : Nat} (a b : List Nat) (x : Int) : Cg p (evL (mulP p a b) x) (evL a x * evL b x) := ev_mulK a b x _
theorem evalP_ev {p x : Nat} (l : List Nat) : Cg p (evalP p l x : Int) (evL l x) := evalP_cg l

/-- The quotient by X - r. -/
def quoI (a : Nat → Int) (r : Int) (n i : Nat) : Int := evI (fun j => a (i + j)) r (n - i)
theorem quoI_step (a : Nat → Int) (r : Int) {n i : Nat} (h : i < n) : quoI a r n i = a i + r * quoI a r n (i + 1) := by
  unfold quoI
  rw [show n - i = (n - (i + 1)) + 1 by omega, evI_shift]
  rw [Nat.add_zero]
  congr 3
  funext j
  congr 1
  omega
theorem quo_eq (a : Nat → Int) (r x : Int) (n : Nat) : ∀ m, m ≤ n → evI a x m = quoI a r n 0 + (x - r) * evI (fun i => quoI a r n (i + 1)) x m - quoI a r n m * x ^ m
  | 0, _ => by rw [evI, evI, Int.mul_zero, Int.pow_zero]; omega
  | m + 1, h => by
    rw [evI, quo_eq a r x n m (by omega), evI, quoI_step a r (i := m) (by omega), Int.pow_succ]
    grind
theorem quo_root (a : Nat → Int) (r x : Int) (n : Nat) : evI a x (n + 1) = evI a r (n + 1) + (x - r) * evI (fun i => quoI a r (n + 1) (i + 1)) x n := by
  have h := quo_eq a r x (n + 1) (n + 1) (Nat.le_refl _)
  have h1 : quoI a r (n + 1) (n + 1) = 0 := by unfold quoI; rw [Nat.sub_self]; rfl
  have h0 : quoI a r (n + 1) 0 = evI a r (n + 1) := by
    unfold quoI
    rw [Nat.sub_zero]
    congr 1
    funext j
    rw [Nat.zero_add]
  rw [h1, h0, Int.zero_mul, Int.sub_zero] at h
  have e : evI (fun i => quoI a r (n + 1) (i + 1)) x (n + 1) = evI (fun i => quoI a r (n + 1) (i + 1)) x n := by rw [evI, h1, Int.zero_mul, Int.add_zero]
  rw [h, e]
/-- n different roots: all n coefficients are zero. -/
theorem all_zero {p : Nat} (h : okP p = true) : ∀ (n : Nat) (a : Nat → Int) (xs : Nat → Int), (∀ i j, i < n → j < n → i ≠ j → ¬ Cg p (xs i) (xs j)) → (∀ k, k < n → Cg p (evI a (xs k) n) 0) → ∀ i, i < n → Cg p (a i) 0
  | 0, _, _, _, _ => fun i hi => absurd hi (Nat.not_lt_zero _)
  | n + 1, a, xs, hx, hr => by
    have hq : ∀ i, i < n → Cg p (quoI a (xs n) (n + 1) (i + 1)) 0 := all_zero h n (fun i => quoI a (xs n) (n + 1) (i + 1)) xs (fun i j hi hj hne => hx i j (by omega) (by omega) hne) fun k hk => by
      have h1 := hr k (by omega)
      rw [quo_root a (xs n) (xs k) n] at h1
      have h2 := hr n (by omega)
      have h3 : Cg p ((xs k - xs n) * evI (fun i => quoI a (xs n) (n + 1) (i + 1)) (xs k) n) 0 := by
        have := (h1.trans h2.symm)
        obtain ⟨c, hc⟩ := this
        exact ⟨c, by rw [← hc]; omega⟩
      rcases mul_zero_cg h h3 with h4 | h4
      · exact absurd (by obtain ⟨c, hc⟩ := h4; exact ⟨c, by rw [← hc]; omega⟩) (hx k n (by omega) (by omega) (by omega))
      · exact h4
    have hq' : ∀ i, i < n + 1 → Cg p (quoI a (xs n) (n + 1) (i + 1)) 0 := fun i hi => by
      rcases Nat.lt_or_ge i n with h1 | h1
      · exact hq i h1
      · have e : i = n := by omega
        subst e
        unfold quoI
        rw [Nat.sub_self]
        exact Cg.rfl'
    have h0 : Cg p (quoI a (xs n) (n + 1) 0) 0 := by
      have e : quoI a (xs n) (n + 1) 0 = evI a (xs n) (n + 1) := by
        unfold quoI
        rw [Nat.sub_zero]
        congr 1
        funext j
        rw [Nat.zero_add]
      rw [e]
      exact hr n (by omega)
    intro i hi
    have hs := quoI_step a (xs n) hi
    have h1 : Cg p (quoI a (xs n) (n + 1) i) 0 := by
      cases i with
      | zero => exact h0
      | succ i => exact hq' i (by omega)
    rw [hs] at h1
    have h2 := (Cg.rfl' (p := p) (x := xs n)).mul (hq' i hi)
    rw [Int.mul_zero] at h2
    obtain ⟨c, hc⟩ := h1
    obtain ⟨d, hd⟩ := h2
    exact ⟨c - d, by rw [Int.mul_sub, ← hc, ← hd]; omega⟩
/-- Two polynomials of n coefficients with the same values at n points are equal. -/
theorem same_values {p n : Nat} (h : okP p = true) {a b : Nat → Int} {xs : Nat → Int} (hx : ∀ i j, i < n → j < n → i ≠ j → ¬ Cg p (xs i) (xs j)) (hv : ∀ k, k < n → Cg p (evI a (xs k) n) (evI b (xs k) n)) : ∀ i, i < n → Cg p (a i) (b i) := fun i hi => by
  have := all_zero h n (fun i => a i + (-1) * b i) xs hx (fun k hk => by
    rw [evI_add, evI_mul]
    exact ((hv k hk).add (Cg.rfl' (x := (-1) * evI b (xs k) n))).trans (Cg.of_eq (by omega))) i hi
  obtain ⟨c, hc⟩ := this
  exact ⟨c, by rw [← hc]; omega⟩
end Go.Proofs.Ytefnagiffllhbaa
