/- A part of the proof: ReBA. No condition. -/
import Derived.Test.YtakjnmojigechaaGreatJA47
import Derived.Test.YtakjnmojigechaaGreatJA43
import Derived.Test.YtakjnmojigechaaGreatJA38
import Derived.Test.YtakjnmojigechaaGreatJA16

namespace Go.Proofs.YtakjnmojigechaaGreat
def singles (f : Nat → Nat) (n : Nat) : List (List Nat) := (List.range n).map fun k => [f k]
def subN (p a b : Nat) : Nat := (a + negP p b) % p
def compD (L : LayR) (cs : List (List Nat)) (al be : Nat) (a b c : List Nat) (x : Nat) (v : List Nat) : List Nat :=
  [subN L.p (evalP L.p a x) (evalP L.p (codeD L.p (singles (fun k => v.getD k 0) v.length) al v.length) 0),
   subN L.p (evalP L.p b x) (evalP L.p (linD L.p (singles (fun k => v.getD k 0) v.length) (singles (fun k => evalP L.p ((wtD L.p cs).getD k []) x) v.length) v.length) 0),
   subN L.p (evalP L.p c x) (evalP L.p (quadD L.p L.a L.b (singles (fun k => v.getD k 0) v.length) be L.b) 0)]
theorem singles_get {f : Nat → Nat} {n k : Nat} (h : k < n) : (singles f n).getD k [] = [f k] := by
  rw [singles, List.getD_eq_getElem?_getD, List.getElem?_map, List.getElem?_range h]
  rfl
theorem ev_single (v : Nat) (x : Int) : evL [v] x = (v : Int) := by
  show 0 + (v : Int) * x ^ 0 = _
  rw [Int.pow_zero]
  omega
theorem subN_cg {p : Nat} (hp : 0 < p) (a b : Nat) : Cg p (subN p a b : Int) ((a : Int) - (b : Int)) :=
  (cg_add_nat _ _).trans ((Cg.rfl'.add (negP_cg p b hp)).trans (Cg.of_eq (by omega)))
theorem ev_subP {p : Nat} (hp : 1 < p) (a b : List Nat) (x : Int) : Cg p (evL (subP p a b) x) (evL a x - evL b x) := by
  unfold subP
  refine (ev_addP a _ x).trans ((Cg.rfl'.add ((ev_scaleP b _ x).trans ((negP_cg p 1 (by omega)).mul Cg.rfl'))).trans (Cg.of_eq ?_))
  rw [show (((1 : Nat) : Int)) = 1 from rfl, Int.neg_mul, Int.one_mul]
  omega
theorem codeD_ev {p : Nat} (rows : List (List Nat)) (al : Nat) (x : Int) : ∀ i, Cg p (evL (codeD p rows al i) x) (sumI (fun j => (powR p al (j + 1) : Int) * evL (rows.getD j []) x) i)
  | 0 => Cg.rfl'
  | i + 1 => by
    rw [codeD, sumI]
    exact (ev_addP _ _ x).trans ((codeD_ev rows al x i).add (ev_scaleP _ _ x))
theorem linD_ev {p : Nat} (rows ws : List (List Nat)) (x : Int) : ∀ i, Cg p (evL (linD p rows ws i) x) (sumI (fun j => evL (ws.getD j []) x * evL (rows.getD j []) x) i)
  | 0 => Cg.rfl'
  | i + 1 => by
    rw [linD, sumI]
    exact (ev_addP _ _ x).trans ((linD_ev rows ws x i).add (ev_mulP _ _ x))
theorem quadD_ev {p : Nat} (hp : 1 < p) (a b : Nat) (rows : List (List Nat)) (be : Nat) (x : Int) : ∀ i, Cg p (evL (quadD p a b rows be i) x) (sumI (fun j => (powR p be (j + 1) : Int) * (evL (rows.getD (a + j) []) x * evL (rows.getD (a + b + j) []) x - evL (rows.getD (a + b + b + j) []) x)) i)
  | 0 => Cg.rfl'
  | i + 1 => by
    rw [quadD, sumI]
    refine (ev_addP _ _ x).trans ((quadD_ev hp a b rows be x i).add ((ev_scaleP _ _ x).trans (Cg.rfl'.mul ?_)))
    unfold gapD
    refine (ev_subP hp _ _ x).trans ?_
    obtain ⟨c, hc⟩ := ev_mulP (p := p) (rows.getD (a + i) []) (rows.getD (a + b + i) []) x
    exact ⟨c, by rw [← hc]; omega⟩
theorem code_one {p : Nat} (f : Nat → Nat) (al n : Nat) : Cg p (evalP p (codeD p (singles f n) al n) 0 : Int) (sumI (fun j => (powR p al (j + 1) : Int) * (f j : Int)) n) := by
  refine (evalP_ev _).trans ((codeD_ev _ _ _ _).trans (sumI_cg _ fun j hj => ?_))
  rw [singles_get hj, ev_single]
  exact Cg.rfl'
theorem lin_one {p : Nat} (f g : Nat → Nat) (n : Nat) : Cg p (evalP p (linD p (singles f n) (singles g n) n) 0 : Int) (sumI (fun j => (g j : Int) * (f j : Int)) n) := by
  refine (evalP_ev _).trans ((linD_ev _ _ _ _).trans (sumI_cg _ fun j hj => ?_))
  rw [singles_get hj, singles_get hj, ev_single, ev_single]
  exact Cg.rfl'
theorem quad_one {p : Nat} (hp : 1 < p) {a b n : Nat} (hn : a + b + b + b = n) (f : Nat → Nat) (be : Nat) : Cg p (evalP p (quadD p a b (singles f n) be b) 0 : Int) (sumI (fun j => (powR p be (j + 1) : Int) * ((f (a + j) : Int) * (f (a + b + j) : Int) - (f (a + b + b + j) : Int))) b) := by
  refine (evalP_ev _).trans ((quadD_ev hp _ _ _ _ _ _).trans (sumI_cg _ fun j hj => ?_))
  rw [singles_get (by omega), singles_get (by omega), singles_get (by omega), ev_single, ev_single, ev_single]
  exact Cg.rfl'
def cm0 (p al : Nat) (f : Nat → Nat) (e : Nat) : Nat → Nat
  | 0 => e
  | j + 1 => subN p (cm0 p al f e j) (powR p al (j + 1) * f j % p)
def cm1 (p : Nat) (d f : Nat → Nat) (e : Nat) : Nat → Nat
  | 0 => e
  | j + 1 => subN p (cm1 p d f e j) (d j * f j % p)
def cm2 (p a b be : Nat) (f : Nat → Nat) (e : Nat) : Nat → Nat
  | 0 => e
  | j + 1 => subN p (cm2 p a b be f e j) (powR p be (j + 1) * subN p (f (a + j) * f (a + b + j) % p) (f (a + b + b + j)) % p)
theorem subN_lt {p : Nat} (hp : 0 < p) (a b : Nat) : subN p a b < p := Nat.mod_lt _ hp
theorem sub_step' {p : Nat} {a b t u : Int} {x y : Int} (h : Cg p a (b - t)) (h2 : Cg p x (a - y)) (h3 : Cg p y u) : Cg p x (b - (t + u)) := by
  obtain ⟨c, hc⟩ := h
  obtain ⟨d, hd⟩ := h2
  obtain ⟨e, he⟩ := h3
  exact ⟨c + d - e, by rw [Int.mul_sub, Int.mul_add, ← hc, ← hd, ← he]; omega⟩
theorem cm0_cg {p : Nat} (hp : 0 < p) (al : Nat) (f : Nat → Nat) (e : Nat) : ∀ j, Cg p (cm0 p al f e j : Int) ((e : Int) - sumI (fun j => (powR p al (j + 1) : Int) * (f j : Int)) j)
  | 0 => Cg.of_eq (by rw [cm0, sumI]; omega)
  | j + 1 => by
    rw [cm0, sumI]
    exact sub_step' (cm0_cg hp al f e j) (subN_cg hp _ _) (cg_mul_nat _ _)
theorem cm1_cg {p : Nat} (hp : 0 < p) (d f : Nat → Nat) (e : Nat) : ∀ j, Cg p (cm1 p d f e j : Int) ((e : Int) - sumI (fun j => (d j : Int) * (f j : Int)) j)
  | 0 => Cg.of_eq (by rw [cm1, sumI]; omega)
  | j + 1 => by
    rw [cm1, sumI]
    exact sub_step' (cm1_cg hp d f e j) (subN_cg hp _ _) (cg_mul_nat _ _)
theorem cm2_cg {p : Nat} (hp : 0 < p) (a b be : Nat) (f : Nat → Nat) (e : Nat) : ∀ j, Cg p (cm2 p a b be f e j : Int) ((e : Int) - sumI (fun j => (powR p be (j + 1) : Int) * ((f (a + j) : Int) * (f (a + b + j) : Int) - (f (a + b + b + j) : Int))) j)
  | 0 => Cg.of_eq (by rw [cm2, sumI]; omega)
  | j + 1 => by
    rw [cm2, sumI]
    refine sub_step' (cm2_cg hp a b be f e j) (subN_cg hp _ _) ((cg_mul_nat _ _).trans (Cg.rfl'.mul ((subN_cg hp _ _).trans ?_)))
    obtain ⟨c, hc⟩ := cg_mul_nat (p := p) (f (a + j)) (f (a + b + j))
    exact ⟨c, by rw [← hc]; omega⟩
def wgt (L : LayR) (x : Nat) : List Nat := (List.range L.block).map (invP L.p L.block L.block.log2 ((List.range L.block).map fun i => x ^ i % L.p))
theorem dotP_cg {p : Nat} (a b : List Nat) : ∀ k, Cg p (dotP p a b k : Int) (sumI (fun m => (a.getD m 0 : Int) * (b.getD m 0 : Int)) k)
  | 0 => Cg.rfl'
  | k + 1 => by
    rw [dotP, sumI]
    refine (cg_add_nat _ _).trans ((dotP_cg a b k).add ((cg_mul_nat _ _).trans ((Cg.mod _).mul (Cg.mod _))))
theorem dot_wgt {L : LayR} (hL : LayOk L) {cs : List (List Nat)} (hcs : ∀ x ∈ cs, x.length = L.block) {j : Nat} (hj : j < cs.length) (x : Nat) : Cg L.p (dotP L.p (cs.getD j []) (wgt L x) L.block : Int) (evalP L.p ((wtD L.p cs).getD j []) x : Int) := by
  obtain ⟨hlen, t, ht⟩ := layLen hL
  have hlog : L.block = 2 ^ L.block.log2 := by rw [ht, Nat.log2_two_pow]
  refine (dotP_cg _ _ _).trans ?_
  refine Cg.trans ?_ (evalP_ev _).symm
  rw [wtF_eq hL hcs hj, ← evL_ext _ _ (n := L.block) (by simp), evI_sum]
  obtain ⟨v, hv⟩ : ∃ v : Int, v = ((rootP L.p L.block ^ (L.p - 2) % L.p : Nat) : Int) := ⟨_, rfl⟩
  obtain ⟨s, hs⟩ : ∃ s : Int, s = ((L.block ^ (L.p - 2) % L.p : Nat) : Int) := ⟨_, rfl⟩
  obtain ⟨c, hc⟩ : ∃ c : Nat → Int, c = fun m => (((cs.getD j []).getD m 0 : Nat) : Int) := ⟨_, rfl⟩
  have hA : Cg L.p (sumI (fun m => ((cs.getD j []).getD m 0 : Int) * ((wgt L x).getD m 0 : Int)) L.block) (sumI (fun m => sumI (fun k => c m * (s * ((x : Int) ^ k * (v ^ m) ^ k))) L.block) L.block) := by
    refine sumI_cg _ fun m hm => ?_
    rw [wgt, range_get, if_pos hm]
    refine (Cg.rfl'.mul (invP_cg _ hL.p hlen hlog hm)).trans ?_
    rw [← hv, ← hs, evI_sum, sumI_mul, sumI_mul]
    refine sumI_cg _ fun k hk => ?_
    rw [range_get, if_pos hk, hc]
    refine Cg.rfl'.mul (Cg.rfl'.mul (Cg.mul ?_ Cg.rfl'))
    exact (Cg.mod _).trans (Cg.of_eq (Int.natCast_pow _ _))
  have hB : Cg L.p (sumI (fun k => cfI ((List.range L.block).map (invP L.p L.block L.block.log2 (cs.getD j []))) k * (x : Int) ^ k) L.block) (sumI (fun k => sumI (fun m => c m * (s * ((x : Int) ^ k * (v ^ m) ^ k))) L.block) L.block) := by
    refine sumI_cg _ fun k hk => ?_
    rw [cfI, range_get, if_pos hk]
    refine ((invP_cg _ hL.p hlen hlog hk).mul Cg.rfl').trans ?_
    rw [← hv, ← hs, evI_sum, sumI_mul, Int.mul_comm, sumI_mul]
    refine sumI_cg _ fun m _ => Cg.of_eq ?_
    rw [hc, ← Int.pow_mul, ← Int.pow_mul, Nat.mul_comm m k]
    grind
  refine hA.trans (Cg.trans (Cg.of_eq ?_) hB.symm)
  exact sumI_swap (fun m k => c m * (s * ((x : Int) ^ k * (v ^ m) ^ k))) L.block L.block
theorem comp_same {L : LayR} (hL : LayOk L) {cs : List (List Nat)} (hcs : ∀ x ∈ cs, x.length = L.block) (al be : Nat) (a b c : List Nat) (x : Nat) {v : List Nat} (hv : v.length = L.a + L.b + L.b + L.b) (hcl : cs.length = v.length) :
    [cm0 L.p al (fun k => v.getD k 0) (evalP L.p a x) v.length, cm1 L.p (fun j => dotP L.p (cs.getD j []) (wgt L x) L.block) (fun k => v.getD k 0) (evalP L.p b x) v.length, cm2 L.p L.a L.b be (fun k => v.getD k 0) (evalP L.p c x) L.b] = compD L cs al be a b c x v := by
  have hp := okP_lt hL.p
  have l0 : ∀ e, e < L.p → ∀ j, cm0 L.p al (fun k => v.getD k 0) e j < L.p := fun e he j => by
    cases j with
    | zero => exact he
    | succ j => exact subN_lt (by omega) _ _
  have l1 : ∀ d e, e < L.p → ∀ j, cm1 L.p d (fun k => v.getD k 0) e j < L.p := fun d e he j => by
    cases j with
    | zero => exact he
    | succ j => exact subN_lt (by omega) _ _
  have l2 : ∀ e, e < L.p → ∀ j, cm2 L.p L.a L.b be (fun k => v.getD k 0) e j < L.p := fun e he j => by
    cases j with
    | zero => exact he
    | succ j => exact subN_lt (by omega) _ _
  unfold compD
  congr 1
  · refine Cg.eq (p := L.p) ((cm0_cg (by omega) _ _ _ _).trans (Cg.trans ?_ (subN_cg (by omega) _ _).symm)) (l0 _ (evalP_lt (by omega) _ _) _) (subN_lt (by omega) _ _)
    obtain ⟨d, hd⟩ := code_one (p := L.p) (fun k => v.getD k 0) al v.length
    exact ⟨d, by rw [← hd]; omega⟩
  congr 1
  · refine Cg.eq (p := L.p) ((cm1_cg (by omega) _ _ _ _).trans (Cg.trans ?_ (subN_cg (by omega) _ _).symm)) (l1 _ _ (evalP_lt (by omega) _ _) _) (subN_lt (by omega) _ _)
    have h1 : Cg L.p (evalP L.p (linD L.p (singles (fun k => v.getD k 0) v.length) (singles (fun k => evalP L.p ((wtD L.p cs).getD k []) x) v.length) v.length) 0 : Int) (sumI (fun j => ((evalP L.p ((wtD L.p cs).getD j []) x : Nat) : Int) * ((v.getD j 0 : Nat) : Int)) v.length) := lin_one (p := L.p) (fun k => v.getD k 0) (fun k => evalP L.p ((wtD L.p cs).getD k []) x) v.length
    have h2 : Cg L.p (sumI (fun j => ((dotP L.p (cs.getD j []) (wgt L x) L.block : Nat) : Int) * ((v.getD j 0 : Nat) : Int)) v.length) (sumI (fun j => ((evalP L.p ((wtD L.p cs).getD j []) x : Nat) : Int) * ((v.getD j 0 : Nat) : Int)) v.length) :=
      sumI_cg _ fun j hj => (dot_wgt hL hcs (by omega) x).mul Cg.rfl'
    obtain ⟨d, hd⟩ := h1
    obtain ⟨e, he⟩ := h2
    exact ⟨d - e, by rw [Int.mul_sub, ← hd, ← he]; omega⟩
  congr 1
  · refine Cg.eq (p := L.p) ((cm2_cg (by omega) _ _ _ _ _ _).trans (Cg.trans ?_ (subN_cg (by omega) _ _).symm)) (l2 _ (evalP_lt (by omega) _ _) _) (subN_lt (by omega) _ _)
    obtain ⟨d, hd⟩ := quad_one (p := L.p) (by omega) hv.symm (fun k => v.getD k 0) be
    exact ⟨d, by rw [← hd]; omega⟩
end Go.Proofs.YtakjnmojigechaaGreat
