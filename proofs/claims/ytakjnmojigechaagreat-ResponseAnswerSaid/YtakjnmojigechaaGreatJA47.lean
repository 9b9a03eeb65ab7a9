/- A part of the proof: ReZ. No condition. -/
import Derived.Test.YtakjnmojigechaaGreatJA46
import Derived.Test.YtakjnmojigechaaGreatJA43
import Derived.Test.YtakjnmojigechaaGreatJA38

namespace Go.Proofs.YtakjnmojigechaaGreat
def rowsD (L : LayR) (m r : List (List Nat)) : List (List Nat) := (List.range m.length).map (rowsF L m r)
def ansCd (L : LayR) (m r : List (List Nat)) (co : List Nat) (al : Nat) : List Nat := padP (addP L.p co (codeD L.p (rowsD L m r) al m.length)) L.k
def ansLd (L : LayR) (cs m r : List (List Nat)) (li : List Nat) : List Nat := padP (addP L.p (mlinP L li) (linD L.p (rowsD L m r) (wtD L.p cs) m.length)) (L.k + L.block - 1)
def ansQd (L : LayR) (m r : List (List Nat)) (qu : List Nat) (be : Nat) : List Nat := padP (addP L.p (quadR L qu) (quadD L.p L.a L.b (rowsD L m r) be L.b)) (2 * L.k - 1)
structure MsgOk (L : LayR) (m r : List (List Nat)) : Prop where
  ml : m.length = L.a + L.b + L.b + L.b
  rl : r.length = m.length
  mr : ∀ x ∈ m, x.length = L.block
  rr : ∀ x ∈ r, x.length = L.queries
theorem getD_prop {l : List (List Nat)} {P : List Nat → Prop} (h : ∀ x ∈ l, P x) {i : Nat} (hi : i < l.length) : P (l.getD i []) := by
  rw [getD_at hi]
  exact h _ (List.getElem_mem hi)
theorem rowsD_get {L : LayR} (hL : LayOk L) {m r : List (List Nat)} (h : MsgOk L m r) {i : Nat} (hi : i < m.length) : (rowsD L m r).getD i [] = ansLst L m r i := by
  have e : (rowsD L m r).getD i [] = rowsF L m r i := by
    rw [rowsD, List.getD_eq_getElem?_getD, List.getElem?_map, List.getElem?_range hi]
    rfl
  have h1 := getD_prop h.mr hi
  have h2 := getD_prop h.rr (show i < r.length by rw [h.rl]; exact hi)
  rw [e, rowsF, rowR_eq hL h1 h2, mrowL, h2, ← hL.k]
  rfl
theorem rowsD_len (L : LayR) (m r : List (List Nat)) : (rowsD L m r).length = m.length := by simp [rowsD]
theorem rowsD_row {L : LayR} (hL : LayOk L) {m r : List (List Nat)} (h : MsgOk L m r) : ∀ x ∈ rowsD L m r, x.length = L.k := fun x hx => by
  obtain ⟨i, hi, rfl⟩ := List.getElem_of_mem hx
  rw [rowsD_len] at hi
  have e := rowsD_get hL h hi
  rw [getD_at (by rw [rowsD_len]; exact hi)] at e
  rw [e]
  simp [ansLst]
theorem step_mod (p a b c : Nat) : ((a + b) % p + c % p) % p = (a + (b + c % p) % p) % p := by
  rw [Nat.mod_add_mod, Nat.add_mod_mod a, Nat.add_assoc]
theorem addTo_in {p s t k : Nat} {F G : Nat → Nat} (h : k < t) : addTo p s F G t k = (F k + s * G k % p) % p := by
  unfold addTo upTo
  rw [if_pos h]
theorem addTo_out {p s t k : Nat} {F G : Nat → Nat} (h : ¬ k < t) : addTo p s F G t k = F k := by
  unfold addTo upTo
  rw [if_neg h]
theorem code_same {L : LayR} (hL : LayOk L) {m r : List (List Nat)} (h : MsgOk L m r) {co : List Nat} (hc : co.length = L.k) (hlt : ∀ y ∈ co, y < L.p) (al : Nat) :
    (List.range L.k).map (pcF L.p L.k al (fun k => co.getD k 0) (ansRow L m r) m.length) = ansCd L m r co al := by
  have hp := okP_lt hL.p
  have hl : (ansCd L m r co al).length = L.k := by
    rw [ansCd, padP_len]
    have h1 := addP_len L.p co (codeD L.p (rowsD L m r) al m.length)
    have h2 := codeD_len (p := L.p) (al := al) (fun x hx => Nat.le_of_eq (rowsD_row hL h x hx)) m.length
    omega
  refine list_ext0 (by rw [hl]; simp) fun k hk => ?_
  simp at hk
  rw [range_get, if_pos hk, ansCd, padP_get, addP_get]
  have key : ∀ i, i ≤ m.length → pcF L.p L.k al (fun k => co.getD k 0) (ansRow L m r) i k = (co.getD k 0 + (codeD L.p (rowsD L m r) al i).getD k 0) % L.p := fun i => by
    induction i with
    | zero =>
      intro _
      rw [pcF, codeD]
      exact (Nat.mod_eq_of_lt (by simpa using getD_lt (by omega) hlt k)).symm
    | succ i ih =>
      intro hi
      rw [pcF, addTo_in hk, ih (by omega), codeD, addP_get, scaleP_get, rowsD_get hL h (by omega), ansLst, range_get, if_pos hk, Nat.mul_comm (powR L.p al (i + 1)), step_mod]
  exact key _ (Nat.le_refl _)
theorem wtF_eq {L : LayR} (hL : LayOk L) {cs : List (List Nat)} (hcs : ∀ x ∈ cs, x.length = L.block) {i : Nat} (hi : i < cs.length) : (wtD L.p cs).getD i [] = (List.range L.block).map (invP L.p L.block L.block.log2 (cs.getD i [])) := by
  obtain ⟨hlen, j, hj⟩ := layLen hL
  have hlog : L.block.log2 = j := by rw [hj]; exact Nat.log2_two_pow
  have h1 := getD_prop hcs hi
  have e : (wtD L.p cs).getD i [] = wtF L.p cs i := by
    rw [wtD, List.getD_eq_getElem?_getD, List.getElem?_map, List.getElem?_range hi]
    rfl
  rw [e, wtF, h1]
  refine List.map_congr_left fun k hk => ?_
  have hk' := List.mem_range.1 hk
  rw [intR_inv (j := j) _ hL.p (by rw [h1]; exact hlen) (by rw [h1]; exact hj) (by omega), h1, hlog]
theorem mulP_getlt {p : Nat} (hp : 0 < p) (a b : List Nat) (k : Nat) : (mulP p a b).getD k 0 < p := getD_lt hp (fun _ h => mulP_lt hp h) k
theorem ansD_get {L : LayR} (hL : LayOk L) {cs m r : List (List Nat)} (h : MsgOk L m r) (hcs : ∀ x ∈ cs, x.length = L.block) (hcl : cs.length = m.length) {i k : Nat} (hi : i < m.length) (hk : k < L.k + L.block - 1) :
    ansD L cs m r i k = (mulP L.p ((wtD L.p cs).getD i []) ((rowsD L m r).getD i [])).getD k 0 := by
  have hp := okP_lt hL.p
  have hb1 := hL.b1
  have hkk := hL.k
  have hnk := hL.nk
  have hq1 := hL.q1
  have h2 : 2 ≤ L.k + L.block - 1 := by omega
  obtain ⟨hM, -⟩ := mul_len hL h2 (by omega)
  obtain ⟨e, hle, -⟩ := fitsN_spec h2
  rw [wtF_eq hL hcs (by omega), rowsD_get hL h hi]
  unfold ansD
  refine Cg.eq (p := L.p) (mulF_cg hL.p hM e _ _ (by simp; omega) (by simp [ansLst]; omega) k (by omega)) (mulF_lt (by omega) _ _ _) (mulP_getlt (by omega) _ _ _)
theorem lin_same {L : LayR} (hL : LayOk L) {cs m r : List (List Nat)} (h : MsgOk L m r) (hcs : ∀ x ∈ cs, x.length = L.block) (hcl : cs.length = m.length) {li : List Nat} (hl : li.length = L.k + L.block - 2) (hlt : ∀ y ∈ li, y < L.p) :
    (List.range (L.k + L.block - 1)).map (plF L.p (L.k + L.block - 1) (fun k => (mlinP L li).getD k 0) (ansD L cs m r) m.length) = ansLd L cs m r li := by
  have hp := okP_lt hL.p
  have hb1 := hL.b1
  have hkk := hL.k
  have hq1 := hL.q1
  have hml : (mlinP L li).length = L.k + L.block - 1 := by rw [mlinP, List.length_cons]; omega
  have hmlt : ∀ k, (mlinP L li).getD k 0 < L.p := fun k => by
    cases k with
    | zero => exact linA_lt (by omega) _ _
    | succ k => exact getD_lt (by omega) hlt k
  have hwl : ∀ x ∈ wtD L.p cs, x.length ≤ L.block := fun x hx => by
    obtain ⟨i, hi, rfl⟩ := List.mem_map.1 hx
    rw [wtF, List.length_map, List.length_range, getD_prop hcs (List.mem_range.1 hi)]
    exact Nat.le_refl _
  have hln : (ansLd L cs m r li).length = L.k + L.block - 1 := by
    rw [ansLd, padP_len]
    have h1 := addP_len L.p (mlinP L li) (linD L.p (rowsD L m r) (wtD L.p cs) m.length)
    have h2 := linD_len (p := L.p) (fun x hx => Nat.le_of_eq (rowsD_row hL h x hx)) hwl m.length
    omega
  refine list_ext0 (by rw [hln]; simp) fun k hk => ?_
  simp at hk
  rw [range_get, if_pos (by omega), ansLd, padP_get, addP_get]
  have key : ∀ i, i ≤ m.length → plF L.p (L.k + L.block - 1) (fun k => (mlinP L li).getD k 0) (ansD L cs m r) i k = ((mlinP L li).getD k 0 + (linD L.p (rowsD L m r) (wtD L.p cs) i).getD k 0) % L.p := fun i => by
    induction i with
    | zero =>
      intro _
      rw [plF, linD]
      exact (Nat.mod_eq_of_lt (by simpa using hmlt k)).symm
    | succ i ih =>
      intro hi
      rw [plF, addTo_in (by omega), ih (by omega), linD, addP_get, ansD_get hL h hcs hcl (by omega) (by omega), Nat.one_mul, step_mod]
      rw [Nat.mod_eq_of_lt (mulP_getlt (p := L.p) (by omega) _ _ _)]
  exact key _ (Nat.le_refl _)
theorem ansXY_get {L : LayR} (hL : LayOk L) {m r : List (List Nat)} (h : MsgOk L m r) {j k : Nat} (hj : j < L.b) (hk : k < 2 * L.k - 1) :
    ansXY L m r j k = (mulP L.p ((rowsD L m r).getD (L.a + j) []) ((rowsD L m r).getD (L.a + L.b + j) [])).getD k 0 := by
  have hp := okP_lt hL.p
  have hb1 := hL.b1
  have hkk := hL.k
  have hnk := hL.nk
  have hq1 := hL.q1
  have hml := h.ml
  have h2 : 2 ≤ 2 * L.k - 1 := by omega
  obtain ⟨hM, -⟩ := mul_len hL h2 (by omega)
  obtain ⟨e, hle, -⟩ := fitsN_spec h2
  rw [rowsD_get hL h (by omega), rowsD_get hL h (by omega)]
  unfold ansXY
  refine Cg.eq (p := L.p) (mulF_cg hL.p hM e _ _ (by simp [ansLst]; omega) (by simp [ansLst]; omega) k (by omega)) (mulF_lt (by omega) _ _ _) (mulP_getlt (by omega) _ _ _)
theorem cg_mul_nat {p : Nat} (a b : Nat) : Cg p ((a * b % p : Nat) : Int) ((a : Int) * (b : Int)) := (Cg.mod _).trans (Cg.of_eq (Int.natCast_mul _ _))
theorem cg_add_nat {p : Nat} (a b : Nat) : Cg p (((a + b) % p : Nat) : Int) ((a : Int) + (b : Int)) := (Cg.mod _).trans (Cg.of_eq (Int.natCast_add _ _))
theorem gap_cg {p : Nat} (hp : 1 < p) (a b : List Nat) (k : Nat) : Cg p ((subP p a b).getD k 0 : Int) ((a.getD k 0 : Int) - (b.getD k 0 : Int)) := by
  rw [subP, addP_get, scaleP_get]
  refine (cg_add_nat _ _).trans ?_
  have h1 := (cg_mul_nat (p := p) (b.getD k 0) (negP p 1)).trans (Cg.rfl'.mul (negP_cg p 1 (by omega)))
  refine (Cg.rfl'.add h1).trans (Cg.of_eq ?_)
  have : (((1 : Nat) : Int)) = 1 := rfl
  rw [this, Int.mul_neg, Int.mul_one]
  rfl
theorem quad_same {L : LayR} (hL : LayOk L) {m r : List (List Nat)} (h : MsgOk L m r) {qu : List Nat} (hq : qu.length = L.block + 2 * L.queries - 1) (be : Nat) :
    (List.range (2 * L.k - 1)).map (pqF L.p L.k (2 * L.k - 1) be (vanP L.p L.block qu qu.length) (ansXY L m r) (ansZ L m r) L.b) = ansQd L m r qu be := by
  have hp := okP_lt hL.p
  have hb1 := hL.b1
  have hkk := hL.k
  have hq1 := hL.q1
  have hml := h.ml
  have hql : (quadR L qu).length = 2 * L.k - 1 := by rw [quadR_eq hL hq, quadL, List.length_map, List.length_range]; omega
  have hln : (ansQd L m r qu be).length = 2 * L.k - 1 := by
    rw [ansQd, padP_len]
    have h1 := addP_len L.p (quadR L qu) (quadD L.p L.a L.b (rowsD L m r) be L.b)
    have h2 := quadD_len (p := L.p) (a := L.a) (b := L.b) (be := be) (fun x hx => Nat.le_of_eq (rowsD_row hL h x hx)) L.b
    omega
  refine list_ext0 (by rw [hln]; simp) fun k hk => ?_
  simp at hk
  rw [range_get, if_pos hk, ansQd, padP_get, addP_get]
  have key : ∀ j, j ≤ L.b → Cg L.p (pqF L.p L.k (2 * L.k - 1) be (vanP L.p L.block qu qu.length) (ansXY L m r) (ansZ L m r) j k : Int) (((quadR L qu).getD k 0 : Int) + ((quadD L.p L.a L.b (rowsD L m r) be j).getD k 0 : Int)) := fun j => by
    induction j with
    | zero =>
      intro _
      rw [pqF, quadD, quadR_eq hL hq, quadL, range_get, if_pos (by omega)]
      exact Cg.of_eq (by simp)
    | succ j ih =>
      intro hj
      have ih := ih (by omega)
      have hz : ansZ L m r j k = if k < L.k then ((rowsD L m r).getD (L.a + L.b + L.b + j) []).getD k 0 else ansZ L m r j k := by
        split
        · rename_i hkL
          rw [rowsD_get hL h (by omega), ansLst, range_get, if_pos hkL]
          rfl
        · rfl
      obtain ⟨F, hF⟩ : ∃ F, F = pqF L.p L.k (2 * L.k - 1) be (vanP L.p L.block qu qu.length) (ansXY L m r) (ansZ L m r) j := ⟨_, rfl⟩
      obtain ⟨P, hP⟩ : ∃ P, P = powR L.p be (j + 1) := ⟨_, rfl⟩
      rw [← hF] at ih
      rw [pqF, quadD, addP_get, scaleP_get, ← hF, ← hP, gapD]
      have hG := gap_cg (p := L.p) (by omega) (mulP L.p ((rowsD L m r).getD (L.a + j) []) ((rowsD L m r).getD (L.a + L.b + j) [])) ((rowsD L m r).getD (L.a + L.b + L.b + j) []) k
      rw [← ansXY_get hL h (by omega) hk] at hG
      generalize ((subP L.p (mulP L.p ((rowsD L m r).getD (L.a + j) []) ((rowsD L m r).getD (L.a + L.b + j) [])) ((rowsD L m r).getD (L.a + L.b + L.b + j) [])).getD k 0) = G at hG ⊢
      have hR : Cg L.p ((((quadR L qu).getD k 0 : Nat) : Int) + ((((quadD L.p L.a L.b (rowsD L m r) be j).getD k 0 + G * P % L.p) % L.p : Nat) : Int)) ((((quadR L qu).getD k 0 : Nat) : Int) + (((quadD L.p L.a L.b (rowsD L m r) be j).getD k 0 : Nat) : Int) + (G : Int) * (P : Int)) := by
        refine (Cg.rfl'.add ((cg_add_nat _ _).trans (Cg.rfl'.add (cg_mul_nat _ _)))).trans (Cg.of_eq ?_)
        omega
      refine Cg.trans ?_ hR.symm
      have h1 : Cg L.p ((addTo L.p P F (ansXY L m r j) (2 * L.k - 1) k : Nat) : Int) ((F k : Int) + (P : Int) * (ansXY L m r j k : Int)) := by
        rw [addTo_in hk]
        exact (cg_add_nat _ _).trans (Cg.rfl'.add (cg_mul_nat _ _))
      by_cases hkL : k < L.k
      · rw [if_pos hkL] at hz
        rw [addTo_in hkL]
        refine (cg_add_nat _ _).trans ?_
        refine (h1.add ((cg_mul_nat _ _).trans ((negP_cg L.p P (by omega)).mul Cg.rfl'))).trans ?_
        rw [hz]
        refine ((ih.add Cg.rfl').add Cg.rfl').trans ?_
        refine Cg.trans (Cg.of_eq ?_) (Cg.rfl'.add (hG.mul Cg.rfl').symm)
        grind
      · rw [addTo_out hkL]
        refine h1.trans ?_
        have hz0 : ((rowsD L m r).getD (L.a + L.b + L.b + j) []).getD k 0 = 0 := getD_out (by rw [rowsD_get hL h (by omega)]; simp [ansLst]; omega)
        rw [hz0] at hG
        refine (ih.add Cg.rfl').trans ?_
        refine Cg.trans (Cg.of_eq ?_) (Cg.rfl'.add (hG.mul Cg.rfl').symm)
        grind
  refine Cg.eq (p := L.p) ((key _ (Nat.le_refl _)).trans ?_) (pqF_lt (by omega) (fun k => vanP_lt (by omega) _ _ _) _ _) (Nat.mod_lt _ (by omega))
  exact (cg_add_nat _ _).symm
theorem ans_fit {L : LayR} (hL : LayOk L) {cs m r : List (List Nat)} (h : MsgOk L m r) (hcs : ∀ x ∈ cs, x.length = L.block) (hcl : cs.length = m.length) {co li qu : List Nat} (hc : co.length = L.k ∧ ∀ y ∈ co, y < L.p) (hl : li.length = L.k + L.block - 2 ∧ ∀ y ∈ li, y < L.p) (hq : qu.length = L.block + 2 * L.queries - 1) (al be : Nat) :
    fitOk L (ansCd L m r co al) (ansLd L cs m r li) (ansQd L m r qu be) = true := by
  have hp := okP_lt hL.p
  rw [← code_same hL h hc.1 hc.2, ← lin_same hL h hcs hcl hl.1 hl.2, ← quad_same hL h hq]
  unfold fitOk
  simp only [List.length_map, List.length_range, decide_true, Bool.true_and, Bool.and_eq_true, List.all_eq_true, decide_eq_true_eq, List.mem_map, List.mem_range]
  refine ⟨⟨?_, ?_⟩, ?_⟩
  · rintro x ⟨k, -, rfl⟩
    exact pcF_lt (by omega) (fun k => getD_lt (by omega) hc.2 k) _ _
  · rintro x ⟨k, -, rfl⟩
    refine plF_lt (by omega) (fun k => ?_) _ _
    cases k with
    | zero => exact linA_lt (by omega) _ _
    | succ k => exact getD_lt (by omega) hl.2 k
  · rintro x ⟨k, -, rfl⟩
    exact pqF_lt (by omega) (fun k => vanP_lt (by omega) _ _ _) _ _
end Go.Proofs.YtakjnmojigechaaGreat
