/-
  What the walks of the laws of the masks have in common.
-/
import Derived.Test.YtefnagiffllhbaaJN23
import Derived.Test.YtefnagiffllhbaaJN21
import Derived.Test.YtefnagiffllhbaaJN6
import Derived.Test.YtefnagiffllhbaaJN5
import Derived.Test.YtefnagiffllhbaaJN18
import Derived.Test.YtefnagiffllhbaaJN14

/- PlL -/
namespace Go.Proofs.Ytefnagiffllhbaa

/-- Powers of the generator with different exponents differ. -/
theorem gen_same {p a b : Nat} (h : okP p = true) (hab : a < b) (hb : b - a < p - 1) : ¬ Cg p (((rowOf p).1 : Int) ^ a) (((rowOf p).1 : Int) ^ b) := fun hc => by
  have hp := okP_lt h
  refine gen_full h (k := b - a) (by omega) hb ?_
  have hv : Cg p (((rowOf p).1 : Int) * ((rowOf p).1 : Int) ^ (p - 2)) 1 := by
    have := gen_one h
    rw [show p - 1 = (p - 2) + 1 by omega, Int.pow_succ, Int.mul_comm] at this
    exact this
  have h1 : Cg p (((rowOf p).1 : Int) ^ a * (((rowOf p).1 : Int) ^ (p - 2)) ^ a) 1 := by
    rw [← Int.mul_pow]
    exact (hv.pow a).trans (Cg.of_eq Int.one_pow)
  have h2 : Cg p (((rowOf p).1 : Int) ^ b * (((rowOf p).1 : Int) ^ (p - 2)) ^ a) (((rowOf p).1 : Int) ^ (b - a)) := by
    rw [show ((rowOf p).1 : Int) ^ b = ((rowOf p).1 : Int) ^ (b - a) * ((rowOf p).1 : Int) ^ a by rw [← Int.pow_add]; congr 1; omega, Int.mul_assoc]
    exact (Cg.rfl'.mul h1).trans (Cg.of_eq (Int.mul_one _))
  exact h2.symm.trans ((hc.symm.mul Cg.rfl').trans h1)
theorem dom_exp {p n k : Nat} : Cg p (domR p (rowOf p).1 n k : Int) (((rowOf p).1 : Int) ^ (1 + (p - 1) / n * k)) := by
  refine (domR_cg k).trans ?_
  rw [Int.pow_add, Int.pow_one, Int.pow_mul]
  refine Cg.rfl'.mul (Cg.pow ?_ k)
  unfold rootP
  exact (Cg.mod _).trans (Cg.of_eq (Int.natCast_pow _ _))
/-- The points of the columns are different. -/
theorem dom_diff {p n a b : Nat} (h : okP p = true) (hn : LenOk p n) (hab : a < b) (hb : b < n) : ¬ Cg p (domR p (rowOf p).1 n a : Int) (domR p (rowOf p).1 n b : Int) := fun hc => by
  have hp := okP_lt h
  have hd := Nat.div_mul_cancel (Nat.dvd_of_mod_eq_zero hn.dvd)
  obtain ⟨m, hm⟩ : ∃ m, m = (p - 1) / n := ⟨_, rfl⟩
  rw [← hm] at hd
  have hm1 : 0 < m := by
    rcases Nat.eq_zero_or_pos m with e | e
    · rw [e, Nat.zero_mul] at hd; omega
    · exact e
  refine gen_same h (a := 1 + m * a) (b := 1 + m * b) ?_ ?_ ?_
  · have := Nat.mul_lt_mul_of_pos_left hab hm1
    omega
  · have h1 : m * (b - a) < m * n := Nat.mul_lt_mul_of_pos_left (by omega) hm1
    rw [Nat.mul_sub] at h1
    rw [← hd, Nat.mul_comm m n] at *
    omega
  · rw [hm]
    exact dom_exp.symm.trans (hc.trans dom_exp)
theorem pow_double {b n : Nat} (hb : ∃ j, b = 2 ^ j) (hn : ∃ j, n = 2 ^ j) (h : b < n) : ∃ t, n = b * t := by
  obtain ⟨i, rfl⟩ := hb
  obtain ⟨j, rfl⟩ := hn
  have hij : i < j := (Nat.pow_lt_pow_iff_right (by decide)).1 h
  exact ⟨2 ^ (j - i), by rw [← Nat.pow_add]; congr 1; omega⟩
/-- The point of a column, to the power Block, is not 1. -/
theorem dom_van {L : LayR} (hL : LayOk L) (k : Nat) : ¬ Cg L.p ((domR L.p (rowOf L.p).1 L.n k : Int) ^ L.block) 1 := fun hc => by
  have hp := okP_lt hL.p
  obtain ⟨hlen, j, hj⟩ := layLen hL
  have hN := (layLenN hL).1
  have hd := Nat.div_mul_cancel (Nat.dvd_of_mod_eq_zero hN.dvd)
  obtain ⟨m, hm⟩ : ∃ m, m = (L.p - 1) / L.n := ⟨_, rfl⟩
  have he := (dom_exp (p := L.p) (n := L.n) (k := k)).symm.pow L.block
  rw [← hm] at he hd
  rw [← Int.pow_mul] at he
  obtain ⟨e, hee⟩ : ∃ e, e = (1 + m * k) * L.block := ⟨_, rfl⟩
  rw [← hee] at he
  have h1 : Cg L.p (((rowOf L.p).1 : Int) ^ e) 1 := he.trans hc
  have h2 := pow_mod_root (gen_one hL.p) e
  have h3 : e % (L.p - 1) = 0 := by
    refine Classical.byContradiction fun hne => ?_
    exact gen_full hL.p (k := e % (L.p - 1)) (by omega) (Nat.mod_lt _ (by omega)) (h2.symm.trans h1)
  obtain ⟨t, ht⟩ := pow_double ⟨j, hj⟩ hL.n (by have := hL.nk; have := hL.k; have := hL.q1; omega)
  have h4 : L.p - 1 ∣ e := Nat.dvd_of_mod_eq_zero h3
  rw [← hd, ht, hee, Nat.mul_comm (1 + m * k), Nat.mul_comm m, Nat.mul_assoc] at h4
  have h5 := Nat.dvd_of_mul_dvd_mul_left (by have := hL.b1; omega) h4
  have h6 : m ∣ 1 + m * k := Nat.dvd_trans ⟨t, Nat.mul_comm _ _⟩ h5
  have h7 : m ∣ 1 := (Nat.dvd_add_iff_left (Nat.dvd_mul_right m k)).2 h6
  have h8 : m = 1 := Nat.dvd_one.1 h7
  rw [h8, Nat.one_mul] at hd
  have := hL.nl
  omega

theorem cg_neg_one {p : Nat} {x : Int} (h : Cg p (x - 1) 0) : Cg p x 1 := by
  obtain ⟨c, hc⟩ := h
  exact ⟨c, by omega⟩
theorem mzP_cg (L : LayR) (hp : 1 < L.p) (x : Nat) : Cg L.p (mzP L x : Int) ((x : Int) ^ L.block - 1) := by
  unfold mzP
  refine (Cg.mod _).trans ((Cg.of_eq (Int.natCast_add _ _)).trans ?_)
  refine (((Cg.mod _).trans (Cg.of_eq (Int.natCast_pow _ _))).add (negP_cg L.p 1 (by omega))).trans (Cg.of_eq ?_)
  omega
theorem mz_inv {L : LayR} (hL : LayOk L) (k : Nat) : Cg L.p ((mzP L (domR L.p (rowOf L.p).1 L.n k) : Int) * ((mzP L (domR L.p (rowOf L.p).1 L.n k) ^ (L.p - 2) % L.p : Nat) : Int)) 1 := by
  have hp := okP_lt hL.p
  exact inv_any hL.p fun hc => dom_van hL k (cg_neg_one ((mzP_cg L (by omega) _).symm.trans hc))

theorem pos_inc {N Q : Nat} {l : List Int} (h : posOk N Q l = true) : ∀ j i, i < j → j < l.length → l.getD i 0 < l.getD j 0
  | 0, i, h1, _ => by omega
  | j + 1, i, h1, h2 => by
    have h3 := (posOk_at h h2).2.2 (by omega)
    rw [Nat.add_sub_cancel] at h3
    rcases Nat.lt_or_ge i j with h4 | h4
    · have := pos_inc h j i h4 (by omega)
      omega
    · obtain rfl : i = j := by omega
      exact h3
theorem mXs_len (L : LayR) (pos : List Int) : (mXs L pos).length = pos.length := by simp [mXs]
theorem mYs_len (L : LayR) (msg : List Nat) (pos : List Int) (vals : List Nat) : (mYs L msg pos vals).length = pos.length := by simp [mYs]
theorem mXs_get (L : LayR) (pos : List Int) {i : Nat} (h : i < pos.length) : (mXs L pos).getD i 0 = mxV L pos i := by rw [mXs, range_get, if_pos h]
theorem mYs_get (L : LayR) (msg : List Nat) (pos : List Int) (vals : List Nat) {i : Nat} (h : i < pos.length) : (mYs L msg pos vals).getD i 0 = myV L msg pos vals i := by rw [mYs, range_get, if_pos h]
/-- The opened points are different. -/
theorem mXs_diff {L : LayR} (hL : LayOk L) {pos : List Int} (h : posOk L.n L.queries pos = true) : ∀ i j, i < j → j < (mXs L pos).length → (mXs L pos).getD i 0 % L.p ≠ (mXs L pos).getD j 0 % L.p := fun i j h1 h2 he => by
  have hp := okP_lt hL.p
  rw [mXs_len] at h2
  rw [mXs_get L pos (by omega), mXs_get L pos h2] at he
  have h3 := pos_inc h j i h1 h2
  have h4 := posOk_at h h2
  have h5 := posOk_at h (i := i) (by omega)
  refine dom_diff hL.p (layLenN hL).1 (a := (pos.getD i 0).toNat) (b := (pos.getD j 0).toNat) (by omega) (by omega) ?_
  have h6 : Cg L.p ((mxV L pos i % L.p : Nat) : Int) ((mxV L pos j % L.p : Nat) : Int) := Cg.of_eq (by rw [he])
  exact (Cg.mod _).symm.trans (h6.trans (Cg.mod _))
theorem masks_same {L : LayR} (hL : LayOk L) {msg vals : List Nat} {pos : List Int} (h : posOk L.n L.queries pos = true) : (List.range L.queries).map (intP L.p (mXs L pos) (mYs L msg pos vals)) = masksR L msg pos vals := by
  have hp := okP_lt hL.p
  have hl : (mXs L pos).length = L.queries := by rw [mXs_len, posOk_len h]
  have := masks_eq hL.p (xs := mXs L pos) (ys := mYs L msg pos vals) (diffX_of (by omega) (mXs_diff hL h))
  rw [hl] at this
  exact this

/-- The program's values of a polynomial are the document's. -/
theorem horn_eval {p : Nat} (hp : 0 < p) (l : List Nat) (x : Nat) : hornP p x l = evalP p l x := Cg.eq (p := p) ((hornP_cg l).trans (evalP_cg l).symm) (hornP_lt hp x l) (evalP_lt hp l x)
theorem maP_inv {L : LayR} (hL : LayOk L) {msg : List Nat} (hm : msg.length = L.block) : (List.range L.block).map (invP L.p L.block L.block.log2 msg) = maP L msg := by
  obtain ⟨hlen, j, hj⟩ := layLen hL
  have hlog : L.block.log2 = j := by rw [hj]; exact Nat.log2_two_pow
  unfold maP
  refine List.map_congr_left fun i hi => ?_
  have := intR_inv (j := j) msg hL.p (by rw [hm]; exact hlen) (by rw [hm]; exact hj) (i := i) (by rw [hm]; exact List.mem_range.1 hi)
  rw [this, hm, hlog]

/-- The value of a row's polynomial anywhere. -/
theorem row_at {L : LayR} (hL : LayOk L) {msg masks : List Nat} (hm : msg.length = L.block) (x : Nat) : Cg L.p (evalP L.p (mrowL L msg masks) x : Int) (((x : Int) ^ L.block - 1) * evL masks x + (evalP L.p (maP L msg) x : Int)) := by
  have hp := okP_lt hL.p
  refine (evalP_cg _).trans ?_
  have hl : (mrowL L msg masks).length = L.block + masks.length := by rw [mrowL, List.length_map, List.length_range]
  rw [hl, mrowL, evI_range]
  refine (evI_plus _ _ _ _).trans ?_
  rw [show min (L.block + masks.length) L.block = L.block by omega]
  refine (vanP_ev (p := L.p) (b := L.block) (by omega) masks (x : Int) masks.length masks.length (Nat.le_refl _)).add ?_
  refine Cg.trans ?_ (evalP_cg _).symm
  rw [← maP_inv hL hm, List.length_map, List.length_range, evI_range]
  exact Cg.rfl'
/-- With the masks, the row has the given values. -/
theorem masks_val {L : LayR} (hL : LayOk L) {msg vals : List Nat} {pos : List Int} (hm : msg.length = L.block) (h : masksOk L pos vals = true) {i : Nat} (hi : i < pos.length) : evalP L.p (mrowL L msg (masksR L msg pos vals)) (mxV L pos i) = vals.getD i 0 := by
  have hp := okP_lt hL.p
  unfold masksOk at h
  rw [Bool.and_eq_true] at h
  obtain ⟨h1, h2⟩ := h
  unfold elOk at h2
  rw [Bool.and_eq_true] at h2
  have hvl := of_decide_eq_true h2.1
  have hva : ∀ x ∈ vals, x < L.p := fun x hx => of_decide_eq_true (List.all_eq_true.1 h2.2 x hx)
  refine Cg.eq (p := L.p) ?_ (evalP_lt (by omega) _ _) (getD_lt (by omega) hva i)
  refine (row_at hL hm _).trans ?_
  have hd := diffX_of (by omega) (mXs_diff hL h1)
  have hlv := lagL_val hL.p (xs := mXs L pos) (ys := mYs L msg pos vals) hd (k := i) (by rw [mXs_len]; exact hi)
  unfold cfI at hlv
  rw [mXs_get L pos hi, mYs_get L msg pos vals hi] at hlv
  unfold masksR
  rw [ev_padP]
  have hz : Cg L.p ((mxV L pos i : Int) ^ L.block - 1) (mzP L (mxV L pos i) : Int) := (mzP_cg L (by omega) _).symm
  have hinv := mz_inv hL (pos.getD i 0).toNat
  have e0 : domR L.p (rowOf L.p).1 L.n (pos.getD i 0).toNat = mxV L pos i := rfl
  rw [e0] at hinv
  obtain ⟨z, hzz⟩ : ∃ z, z = mzP L (mxV L pos i) := ⟨_, rfl⟩
  obtain ⟨E, hE⟩ : ∃ E, E = evalP L.p (maP L msg) (mxV L pos i) := ⟨_, rfl⟩
  obtain ⟨V, hV⟩ : ∃ V, V = vals.getD i 0 := ⟨_, rfl⟩
  have hy : myV L msg pos vals i = (V + negP L.p E) % L.p * (z ^ (L.p - 2) % L.p) % L.p := by rw [hzz, hE, hV]; rfl
  rw [← hzz] at hz hinv
  rw [← hE, ← hV]
  have hyc : Cg L.p (myV L msg pos vals i : Int) (((V : Int) - (E : Int)) * ((z ^ (L.p - 2) % L.p : Nat) : Int)) := by
    rw [hy]
    refine (Cg.mod _).trans ((Cg.of_eq (Int.natCast_mul _ _)).trans (Cg.mul ?_ Cg.rfl'))
    exact (Cg.mod _).trans ((Cg.of_eq (Int.natCast_add _ _)).trans ((Cg.rfl'.add (negP_cg L.p E (by omega))).trans (Cg.of_eq (by omega))))
  refine ((hz.mul (hlv.trans hyc)).add Cg.rfl').trans ?_
  obtain ⟨zi, hzi⟩ : ∃ zi : Int, zi = ((z ^ (L.p - 2) % L.p : Nat) : Int) := ⟨_, rfl⟩
  rw [← hzi] at hinv ⊢
  have e1 : (z : Int) * (((V : Int) - (E : Int)) * zi) + (E : Int) = ((z : Int) * zi) * ((V : Int) - E) + E := by
    rw [Int.mul_comm ((V : Int) - E) zi, Int.mul_assoc]
  rw [e1]
  exact ((hinv.mul Cg.rfl').add Cg.rfl').trans (Cg.of_eq (by rw [Int.one_mul]; omega))
/-- The masks are fixed by the row's values (at Queries different columns). -/
theorem masks_back {L : LayR} (hL : LayOk L) {msg masks vals : List Nat} {pos : List Int} (hm : msg.length = L.block) (hk : masks.length = L.queries) (hkp : ∀ x ∈ masks, x < L.p) (h : posOk L.n L.queries pos = true) (hv : vals = (List.range pos.length).map fun i => evalP L.p (mrowL L msg masks) (mxV L pos i)) : masksR L msg pos vals = masks := by
  have hp := okP_lt hL.p
  have hpl := posOk_len h
  have hok : masksOk L pos vals = true := by
    unfold masksOk elOk
    rw [h, hv, List.length_map, List.length_range, hpl]
    simp
    intro x _
    exact evalP_lt (by omega) _ _
  have hd := diffX_of (by omega) (mXs_diff hL h)
  have hml : (masksR L msg pos vals).length = L.queries := by
    have := lagR_len L.p (mXs L pos) (mYs L msg pos vals) _ (Nat.le_refl (mXs L pos).length)
    rw [mXs_len] at this
    unfold masksR
    rw [padP_len]
    unfold lagL
    rw [mXs_len]
    omega
  refine list_ext0 (by rw [hml, hk]) fun i hi => ?_
  rw [hml] at hi
  refine Cg.eq (p := L.p) ?_ ?_ (getD_lt (by omega) hkp i)
  · refine same_values (n := L.queries) hL.p (a := cfI (masksR L msg pos vals)) (b := cfI masks) (xs := cfI (mXs L pos)) (fun a b ha hb hne => hd a b (by rw [mXs_len]; omega) (by rw [mXs_len]; omega) hne) (fun k hk2 => ?_) i hi
    rw [evL_ext _ _ (by omega), evL_ext _ _ (by omega)]
    have hk3 : k < pos.length := by omega
    have h1 := masks_val hL hm hok hk3
    have h2 : vals.getD k 0 = evalP L.p (mrowL L msg masks) (mxV L pos k) := by rw [hv, range_get, if_pos hk3]
    have e0 : cfI (mXs L pos) k = (mxV L pos k : Int) := by unfold cfI; rw [mXs_get L pos hk3]
    rw [e0]
    have h3 : Cg L.p (evalP L.p (mrowL L msg (masksR L msg pos vals)) (mxV L pos k) : Int) (evalP L.p (mrowL L msg masks) (mxV L pos k) : Int) := Cg.of_eq (by rw [h1, h2])
    have h4 := (row_at hL hm (masks := masksR L msg pos vals) (mxV L pos k)).symm.trans (h3.trans (row_at hL hm (masks := masks) (mxV L pos k)))
    obtain ⟨X, hX⟩ : ∃ X, X = evL (masksR L msg pos vals) (mxV L pos k : Int) := ⟨_, rfl⟩
    obtain ⟨Y, hY⟩ : ∃ Y, Y = evL masks (mxV L pos k : Int) := ⟨_, rfl⟩
    rw [← hX, ← hY] at h4 ⊢
    obtain ⟨zz, hzz⟩ : ∃ zz, zz = (mxV L pos k : Int) ^ L.block - 1 := ⟨_, rfl⟩
    have hz : Cg L.p (mzP L (mxV L pos k) : Int) zz := by rw [hzz]; exact mzP_cg L (by omega) _
    rw [← hzz] at h4
    have hinv := mz_inv hL (pos.getD k 0).toNat
    have e1 : domR L.p (rowOf L.p).1 L.n (pos.getD k 0).toNat = mxV L pos k := rfl
    rw [e1] at hinv
    obtain ⟨zi, hzi⟩ : ∃ zi : Int, zi = ((mzP L (mxV L pos k) ^ (L.p - 2) % L.p : Nat) : Int) := ⟨_, rfl⟩
    rw [← hzi] at hinv
    have hinv2 : Cg L.p (zz * zi) 1 := (hz.symm.mul Cg.rfl').trans hinv
    have h5 : Cg L.p (zz * X) (zz * Y) := by
      obtain ⟨c, hc⟩ := h4
      exact ⟨c, by omega⟩
    have h6 : Cg L.p (zi * (zz * X)) (zi * (zz * Y)) := Cg.rfl'.mul h5
    rw [← Int.mul_assoc, ← Int.mul_assoc, Int.mul_comm zi zz] at h6
    refine Cg.trans ?_ (h6.trans ((hinv2.mul Cg.rfl').trans (Cg.of_eq (Int.one_mul _))))
    exact Cg.trans (Cg.of_eq (Int.one_mul _).symm) (hinv2.symm.mul Cg.rfl')
  · refine getD_lt (by omega) (fun x hx => ?_) i
    unfold masksR at hx
    obtain ⟨k, hk4, rfl⟩ := List.getElem_of_mem hx
    have := padP_get (lagL L.p (mXs L pos) (mYs L msg pos vals)) L.queries k
    rw [List.getD_eq_getElem?_getD, List.getElem?_eq_getElem hk4] at this
    simp only [Option.getD_some] at this
    rw [this]
    exact getD_lt (by omega) (lagL_lt (by omega) _ _) k
end Go.Proofs.Ytefnagiffllhbaa

/- PlN -/
namespace Go.Proofs.Ytefnagiffllhbaa
open Go.RowKit

/-- A slice of ints reads as its cells. -/
theorem ri_rd {w : World} {A : Option Addr} {l : List Int} (h : RdL w 1 RI1 A l) : Rd w 1 A l.length (I64 l) := by
  refine ⟨by simp [I64], fun hl => ?_⟩
  obtain ⟨b, q, rfl, -⟩ := ri_get h hl
  refine ⟨⟨b, q, none⟩, rfl, fun j u hj => ?_⟩
  have hjl : j < l.length := by
    have := (List.getElem?_eq_some_iff.1 hj).1
    simpa [I64] using this
  obtain ⟨b', q', e, -, hc, -⟩ := ri_get h hjl
  injection e with e
  injection e with e1 e2
  subst e1 e2
  simp [I64, hjl] at hj
  subst hj
  rw [List.getD_eq_getElem?_getD, List.getElem?_eq_getElem hjl] at hc
  rw [show (⟨b, q, none⟩ : Addr).add j = ⟨b, q + j, none⟩ from add_none _ _ _]
  exact hc
theorem rd_ri {w : World} {A : Option Addr} {l : List Int} (h : Rd w 1 A l.length (I64 l)) (hl : ∀ x ∈ l, -9223372036854775808 ≤ x ∧ x ≤ 9223372036854775807) : RdL w 1 RI1 A l := fun i hi => by
  obtain ⟨ad, rfl, hc⟩ := h.2 (by omega)
  have h1 := hc i (.int .i64 l[i]) (by simp [I64, hi])
  refine ⟨ad, [.int .i64 l[i]], rfl, rfl, fun j hj => ?_, rfl, hl _ (List.getElem_mem _)⟩
  obtain rfl : j = 0 := by omega
  rw [Nat.mul_one, Nat.add_zero]
  exact h1
theorem ri_all {w : World} {A : Option Addr} {l : List Int} (h : RdL w 1 RI1 A l) : ∀ x ∈ l, -9223372036854775808 ≤ x ∧ x ≤ 9223372036854775807 := fun x hx => by
  obtain ⟨i, hi, rfl⟩ := List.getElem_of_mem hx
  obtain ⟨a, cs, -, -, -, -, h1⟩ := h i hi
  exact h1
/-- A slice of ints that the call owns. -/
theorem own_ri {w : World} {base : Nat} {e : TypeId} {A : Option Addr} {c n : Nat} {l : List Int} (h : w.ownsRow base e 1 (.slice A n c) n (I64 l)) (hl : ∀ x ∈ l, -9223372036854775808 ≤ x ∧ x ≤ 9223372036854775807) : RInts w [.slice A n c] l := by
  obtain ⟨A', c', he, h1, h2, h3, -⟩ := own_form h
  simp at he
  obtain ⟨rfl, rfl⟩ := he
  have hn : l.length = n := by have := h3.1; simpa [I64] using this
  subst hn
  exact ⟨A, l.length, c, rfl, rfl, h1, h2, rd_ri h3 hl⟩

theorem info_i : (Try.prog.info? 3).map (fun i => (i.zero, i.size, i.bytes)) = some (some (.int .i64 0), 1, 8) := by kernel_rfl
theorem el_i : Elem Try.prog 50 3 1 8 (.int .i64 0) := by
  obtain ⟨i0, hi, hz0, hz1, hz2⟩ := info_parts info_i
  exact ⟨Try.underlying50, ⟨i0, hi, hz0, hz1, hz2⟩, rfl, by omega⟩

theorem cellsOf_u16 : Try.prog.cellsOf 49 = 1 := by kernel_rfl
theorem cellsOf_ints : Try.prog.cellsOf 50 = 1 := by kernel_rfl
theorem cellsOf_op : Try.prog.cellsOf 52 = 3 := by kernel_rfl
theorem open_op {w : World} {cs1 : Array Value} (f1 : Fits Try.prog w 52 (Value.agg cs1).cells.toList) :
    ∃ (r : Nat) (A C : Option Addr) (m d k e : Nat) (pos : List Int) (vals : List Nat), cs1 = #[.int .u16 (r : Int), .slice A m d, .slice C k e] ∧ r < 65536 ∧ RInts w [.slice A m d] pos ∧ RWd w [.slice C k e] vals := by
  have e1 : (Value.agg cs1).cells = cs1 := rfl
  rw [e1] at f1
  clear e1
  have hl := (fits_struct Try.underlying52 f1).1
  rw [cellsOf_op] at hl
  obtain ⟨cs, hcs⟩ : ∃ cs : List Value, cs1.toList = cs := ⟨_, rfl⟩
  rw [hcs] at hl f1
  obtain rfl : cs1 = cs.toArray := by rw [← hcs]
  clear hcs
  match cs, hl with
  | [x0, x1, x2], _ =>
    obtain ⟨n0, h0, hw⟩ := fits_int Try.underlying49 (fits_field (i := 0) Try.underlying52 rfl rfl cellsOf_u16 f1)
    obtain ⟨pos, h1⟩ := fits_RSl (R := RI1) 1 Try.underlying50 cellsOf_int (fun cs' _ hf => by
      obtain ⟨x, hx, h⟩ := fits_i64 Try.underlying3 hf
      exact ⟨x, hx, h⟩) (fits_field (i := 1) Try.underlying52 rfl rfl cellsOf_ints f1)
    obtain ⟨vals, h2⟩ := fits_RWd Try.underlying28 Try.underlying22 cellsOf_u64 (fits_field (i := 2) Try.underlying52 rfl rfl cellsOf_words f1)
    simp at h0 h1 h2
    have hx : 0 ≤ n0 ∧ n0 ≤ 65535 := by simpa [Lit.wf, IntKind.min, IntKind.max, IntKind.signed, IntKind.bits] using hw
    obtain ⟨r, rfl⟩ := Int.eq_ofNat_of_zero_le hx.1
    obtain ⟨A, m, d, e1, -⟩ := id h1
    obtain ⟨C, k, e, e2, -⟩ := id h2
    simp only [List.cons.injEq, and_true] at e1 e2
    subst h0 e1 e2
    exact ⟨r, A, C, m, d, k, e, pos, vals, rfl, by omega, h1, h2⟩
end Go.Proofs.Ytefnagiffllhbaa

/- LwA -/
namespace Go.Proofs.Ytefnagiffllhbaa
open Go.RowKit

theorem wf_n64 {n : Int} (h : (Lit.int .u64 n).wf = true) : ∃ m : Nat, n = (m : Int) ∧ m < 18446744073709551616 := by
  have hx : 0 ≤ n ∧ n ≤ 18446744073709551615 := by simpa [Lit.wf, IntKind.min, IntKind.max, IntKind.signed, IntKind.bits] using h
  obtain ⟨m, rfl⟩ := Int.eq_ofNat_of_zero_le hx.1
  exact ⟨m, rfl, by omega⟩
theorem wf_n16 {n : Int} (h : (Lit.int .u16 n).wf = true) : ∃ m : Nat, n = (m : Int) ∧ m < 65536 := by
  have hx : 0 ≤ n ∧ n ≤ 65535 := by simpa [Lit.wf, IntKind.min, IntKind.max, IntKind.signed, IntKind.bits] using h
  obtain ⟨m, rfl⟩ := Int.eq_ofNat_of_zero_le hx.1
  exact ⟨m, rfl, by omega⟩
theorem rowsP_len (L : LayR) (s n : Nat) : (rowsP L s n).length = n := by simp [rowsP]
theorem rowsP_row {L : LayR} {s n i : Nat} (h : i < (rowsP L s n).length) : ((rowsP L s n)[i]).length = L.queries := by simp [rowsP, vecP]
end Go.Proofs.Ytefnagiffllhbaa
