/-
  The program's polynomials: poly.Eval, poly.shorten; transform.Domain, layout.Points.
-/
import Derived.Test.YtefnagiffllhbaaGreatJM20
import Derived.Test.YtefnagiffllhbaaGreatJM5
import Derived.Test.YtefnagiffllhbaaGreatJM14
import Derived.Test.YtefnagiffllhbaaGreatJM3
import Derived.Test.YtefnagiffllhbaaGreatJM22
import Derived.Test.YtefnagiffllhbaaGreatJM16

/- PoN -/
namespace Go.Proofs.YtefnagiffllhbaaGreat
open Go.RowKit

set_option maxRecDepth 100000 in
set_option maxHeartbeats 1000000 in
theorem rPad_own (A : Option Addr) (n c m : Nat) (l : List Nat) (w : World) (hl : RWd w [.slice A n c] l) (hn : n ≤ 100000) (hm : m ≤ 100000) :
    Calls Tryz.prog 41 #[.slice A n c, .int .i64 (m : Int)] w fun e w' => ∃ v, e = .returned v ∧ w'.ownsRow w.heap.size 22 1 v (padP l m).length (U64 (padP l m)) ∧ Below w.heap.size w w' := by
  obtain ⟨rfl, h1, h2, hlt, hrd⟩ := lw_at hl
  have hal := (Below.refl w.heap.size w).alloc (Nat.le_refl _) (.cells #[] 22)
  have HS := Lib.hid (show ∀ k, l ++ List.replicate k 0 ++ [0] = l ++ List.replicate (k + 1) 0 from fun k => by rw [List.append_assoc, List.replicate_succ'])
  have HP := Lib.hid (show padP l m = l ++ List.replicate (m - l.length) 0 from rfl)
  rw [HP.out]
  obtain ⟨f, hf⟩ : ∃ f, f = fun k => l ++ List.replicate k 0 := ⟨_, rfl⟩
  have H0 := Lib.hid (show f 0 = l by rw [hf]; simp)
  have HF := Lib.hid (show ∀ k, f k ++ [0] = f (k + 1) from fun k => by rw [hf]; exact HS.out k)
  rw [show l ++ List.replicate (m - l.length) 0 = f (m - l.length) by rw [hf]]
  clear HS HP hf hlt h1 h2 hl
  go_enter Tryz.func41, Tryz.ntmps41
  go_wp2_with (at_builtin; refine wpl_append rfl _ _ rfl el_w rfl (own_empty w 22 (Nat.le_refl _)) rfl (hrd.alloc _) (one_U64 l) (by omega) (by simp) ?_)
  intro v1 w1 hown hgrow hblk
  have hB := lw_grow (own_empty w 22 (Nat.le_refl _)) hgrow (by simp)
  replace hB := hal.trans hB
  obtain ⟨t, ht⟩ : ∃ t, t = l.length := ⟨_, rfl⟩
  have hown1 : w1.ownsRow w.heap.size 22 1 v1 t (U64 (f 0)) := by
    rw [H0.out, ht]; simpa using hown
  have HT := Lib.hid ht
  clear hgrow hblk hown hal ht hrd
  go_wp2_with fail
  go_loopw [5] (fun v wr => ∃ k s : Nat, Hid (s = t + k ∧ (k = 0 ∨ s ≤ m)) ∧ s ≤ 200000 ∧ wr.ownsRow w.heap.size 22 1 v s (U64 (f k)) ∧ Below w.heap.size w wr) (fun v _ => match v with | .slice _ n _ => m - n | _ => 0)
  case atStart => exact ⟨0, t, Lib.hid ⟨rfl, .inl rfl⟩, by have := HT.out; omega, hown1, hB⟩
  case round =>
    clear hown1 hB
    obtain ⟨k, s, HK, hs, hown, hb⟩ := hrel
    obtain ⟨A1, c1, rfl, -⟩ := own_form hown
    by_cases hlt : s < m
    · have g1 : (s : Int) < (m : Int) := by omega
      have HF1 := Lib.hid (HF.out k)
      go_wp2_with (at_builtin; refine wpl_append rfl _ _ rfl el_w rfl (hown.alloc _) rfl (rd_one _ _ _) (one_U64 [0]) (by omega) (by simp; have := hb.size; omega) ?_)
      intro v' wn hown' hgrow hblk
      have hal := (Below.refl wr.heap.size wr).alloc (Nat.le_refl _) (.cells #[.int .u64 (0 : Int)] 22)
      have hB := lw_grow (hown.alloc _) hgrow (by simp; have := hb.size; omega)
      replace hb := (below_on hb hal hb.size).trans hB
      replace hown : wn.ownsRow w.heap.size 22 1 v' (s + 1) (U64 (f (k + 1))) := lw_app (b := [0]) hown' HF1.out
      clear hown' hgrow hblk hal hB
      obtain ⟨A2, c2, rfl, -⟩ := own_form hown
      go_wp2
      go_roundw
      case rel => exact ⟨k + 1, s + 1, Lib.hid (by have := HK.out; omega), by omega, hown, hb⟩
      case measure => simp; omega
    · have g1 : ¬ ((s : Int) < (m : Int)) := by omega
      have HE := Lib.hid (show f k = f (m - l.length) by
        have h := HK.out
        have h2 := HT.out
        rcases h.2 with h3 | h3
        · rw [h3, show m - l.length = 0 by omega]
        · rw [show k = m - l.length by omega])
      rw [HE.out] at hown
      have HSL := Lib.hid (show (f (m - l.length)).length = s by
        have := hown.1
        simpa [U64] using this)
      go_wp2
      go_ret
      exact ⟨_, rfl, by rw [HSL.out]; exact hown, hb⟩
set_option maxRecDepth 100000 in
set_option maxHeartbeats 1000000 in
theorem rRow25_own (L : LayR) (A B : Option Addr) (n c m d : Nat) (msg masks : List Nat) (w : World) (hL : LayOk L) (hl : RWd w [.slice A n c] msg) (hk : RWd w [.slice B m d] masks) (hn : n = L.block) (hm : m ≤ 30000) :
    Calls Tryz.prog 15 #[.agg (layCs L), .slice A n c, .slice B m d] w fun e w' => ∃ v, e = .returned v ∧ w'.ownsRow w.heap.size 22 1 v (rowR L msg masks).length (U64 (rowR L msg masks)) ∧ Below w.heap.size w w' := by
  obtain ⟨hp1, hp2⟩ := okP_lt hL.p
  have hb2 := hL.b2
  have hk1 : L.k ≤ 400 := by have := hL.k; have := hL.q2; omega
  obtain ⟨hlen, -⟩ := layLen hL
  have hml := (lw_at hk).1
  have hnl := (lw_at hl).1
  subst hn
  have HI := Lib.hid (fun w' (hb : Below w.heap.size w w') => rInterpolate_any L.p 1 L.block A c msg w' hL.p (kept_RWd _ _ _ _ hb hl) hlen (by rw [Nat.mod_eq_of_lt (by omega)]; decide))
  have HZ := Lib.hid (fun w => rZero_any L w hL)
  have HM := Lib.hid (fun A n c w' (hb : Below w.heap.size w w') ha hn => rMulP_any L.p A B n c m d (zeroP L.p L.block) masks w' hL.p ha (kept_RWd _ _ _ _ hb hk) hn (by omega))
  have HA := Lib.hid (fun A B n c m d a b w ha hb hn hm => rAddP_any L.p A B n c m d a b w hL.p ha hb hn hm)
  have HP := Lib.hid (fun A n c l w hl hn => rPad_own A n c L.k l w hl hn (by omega))
  have HIL := Lib.hid (show ∀ x ∈ (List.range L.block).map (intR L.p msg 1), x < 18446744073709551616 from fun x hx => by
    obtain ⟨i, -, rfl⟩ := List.mem_map.1 hx
    exact Nat.lt_trans (intR_lt (by omega) _ _ _) hp2)
  have HR := Lib.hid (show rowR L msg masks = padP (addP L.p ((List.range L.block).map (intR L.p msg 1)) (mulP L.p (zeroP L.p L.block) masks)) L.k by rw [rowR, ← hnl])
  rw [HR.out]
  have h1 := Lib.hid (show (mulP L.p (zeroP L.p L.block) masks).length ≤ 40000 by have := mulP_len L.p (zeroP L.p L.block) masks; rw [zeroP_len] at this; omega)
  have h2 := Lib.hid (show (addP L.p ((List.range L.block).map (intR L.p msg 1)) (mulP L.p (zeroP L.p L.block) masks)).length ≤ 40000 by have := addP_len L.p ((List.range L.block).map (intR L.p msg 1)) (mulP L.p (zeroP L.p L.block) masks); rw [List.length_map, List.length_range] at this; have := h1.out; omega)
  have h3 := Lib.hid (zeroP_len L.p L.block)
  have h4 : L.block ≤ 256 := hb2
  generalize mulP L.p (zeroP L.p L.block) masks = M at *
  generalize (List.range L.block).map (intR L.p msg 1) = I at *
  clear HR hL hl hk hlen hml hnl hp1 hp2 hk1 hb2 hm
  unfold layCs at *
  have kl := Blk.new w 34 #[.int .u64 (L.p : Int), .int .i64 (L.block : Int), .int .i64 (L.queries : Int), .int .i64 (L.k : Int), .int .i64 (L.n : Int), .int .i64 (L.secret : Int), .int .i64 (L.rows : Int), .int .i64 (L.a : Int), .int .i64 (L.b : Int), .int .i64 (L.b : Int), .int .i64 (L.b : Int)]
  have hb0 : Below w.heap.size w (w.alloc (.cells #[.int .u64 (L.p : Int), .int .i64 (L.block : Int), .int .i64 (L.queries : Int), .int .i64 (L.k : Int), .int .i64 (L.n : Int), .int .i64 (L.secret : Int), .int .i64 (L.rows : Int), .int .i64 (L.a : Int), .int .i64 (L.b : Int), .int .i64 (L.b : Int), .int .i64 (L.b : Int)] 34)) := (Below.refl _ _).alloc (Nat.le_refl _) _
  go_enter Tryz.func15, Tryz.ntmps15
  go_wp2_with fail
  generalize w.alloc _ = w1 at kl hb0 ⊢
  refine (HI.out _ hb0).mono ?_
  rintro e w2 ⟨v1, rfl, hown, hbx⟩
  replace kl := kl.below hbx kl.lt
  replace hb0 := below_chain hb0 hbx
  clear hbx
  obtain ⟨A1, c1, rfl, -⟩ := own_form hown
  have hI := lw_own hown HIL.out
  clear hown HIL HI
  have cl := kl.cell
  have ll := kl.lt
  go_upto_region 2 with fail
  refine wpO_begin (Later) [6, 8, 9, 12] [0, 1, 2, 3, 4, 5, 7, 10, 11, 6, 8, 9, 12, 13] (by kernel_rfl) (by kernel_rfl) ?_
  refine wpO_startK (later_moves) ?_
  intro Wc HWc hacc
  have hbW : Below w2.heap.size w2 Wc := by rw [HWc.out]; exact (Below.refl _ _).drew
  replace hb0 := below_chain hb0 hbW
  replace hI := kept_RWd _ _ _ _ hbW hI
  repeat (first | (refine wpO_skip (later_moves) rfl rfl (fun _ _ _ h => h) ?_ ; simp only [Act.put, List.setIfInBounds_toArray, List.set_cons_zero, List.set_cons_succ]) | (refine wpO_light (v := ?_) (later_moves) rfl rfl (fun _ _ _ h => h) ?_ ?_ ; rotate_left ; (· (intro w' hR ; (first | have hcells := later_cellsD ((later_moves).trans _ _ _ hacc hR) | skip) ; go_simp ; try with_reducible rfl)) ; simp only [Act.put, List.setIfInBounds_toArray, List.set_cons_zero, List.set_cons_succ]))
  refine wpO_call (later_moves) rfl rfl rfl (fun _ => by go_simp <;> rfl) ((HZ.out _).mono ?_)
  rintro e w3 ⟨v3, rfl, hZ, hb3⟩
  refine ⟨_, rfl, hb3, ?_⟩
  replace hacc := (later_moves).trans _ _ _ hacc (hb3)
  simp only [Act.put, List.setIfInBounds_toArray, List.set_cons_zero, List.set_cons_succ]
  replace hb0 := below_chain hb0 hb3
  replace hI := kept_RWd _ _ _ _ hb3 hI
  obtain ⟨A3, c3, rfl⟩ := rwd_form hZ
  repeat (first | (refine wpO_skip (later_moves) rfl rfl (fun _ _ _ h => h) ?_ ; simp only [Act.put, List.setIfInBounds_toArray, List.set_cons_zero, List.set_cons_succ]) | (refine wpO_light (v := ?_) (later_moves) rfl rfl (fun _ _ _ h => h) ?_ ?_ ; rotate_left ; (· (intro w' hR ; (first | have hcells := later_cellsD ((later_moves).trans _ _ _ hacc hR) | skip) ; go_simp ; try with_reducible rfl)) ; simp only [Act.put, List.setIfInBounds_toArray, List.set_cons_zero, List.set_cons_succ]))
  refine wpO_call (later_moves) rfl rfl rfl (fun _ => by go_simp <;> rfl) ((HM.out _ _ _ _ hb0 hZ (by rw [h3.out]; omega)).mono ?_)
  rintro e w4 ⟨v4, rfl, hM, hb4⟩
  refine ⟨_, rfl, hb4, ?_⟩
  replace hacc := (later_moves).trans _ _ _ hacc (hb4)
  simp only [Act.put, List.setIfInBounds_toArray, List.set_cons_zero, List.set_cons_succ]
  replace hb0 := below_chain hb0 hb4
  replace hI := kept_RWd _ _ _ _ hb4 hI
  obtain ⟨A4, c4, rfl⟩ := rwd_form hM
  repeat (first | (refine wpO_skip (later_moves) rfl rfl (fun _ _ _ h => h) ?_ ; simp only [Act.put, List.setIfInBounds_toArray, List.set_cons_zero, List.set_cons_succ]) | (refine wpO_light (v := ?_) (later_moves) rfl rfl (fun _ _ _ h => h) ?_ ?_ ; rotate_left ; (· (intro w' hR ; (first | have hcells := later_cellsD ((later_moves).trans _ _ _ hacc hR) | skip) ; go_simp ; try with_reducible rfl)) ; simp only [Act.put, List.setIfInBounds_toArray, List.set_cons_zero, List.set_cons_succ]))
  refine wpO_call (later_moves) rfl rfl rfl (fun _ => by go_simp <;> rfl) ((HA.out _ _ _ _ _ _ _ _ _ hI hM (by omega) (by have := h1.out; omega)).mono ?_)
  rintro e w5 ⟨v5, rfl, hA, hb5⟩
  refine ⟨_, rfl, hb5, ?_⟩
  replace hacc := (later_moves).trans _ _ _ hacc (hb5)
  simp only [Act.put, List.setIfInBounds_toArray, List.set_cons_zero, List.set_cons_succ]
  replace hb0 := below_chain hb0 hb5
  obtain ⟨A5, c5, rfl⟩ := rwd_form hA
  repeat (first | (refine wpO_skip (later_moves) rfl rfl (fun _ _ _ h => h) ?_ ; simp only [Act.put, List.setIfInBounds_toArray, List.set_cons_zero, List.set_cons_succ]) | (refine wpO_light (v := ?_) (later_moves) rfl rfl (fun _ _ _ h => h) ?_ ?_ ; rotate_left ; (· (intro w' hR ; (first | have hcells := later_cellsD ((later_moves).trans _ _ _ hacc hR) | skip) ; go_simp ; try with_reducible rfl)) ; simp only [Act.put, List.setIfInBounds_toArray, List.set_cons_zero, List.set_cons_succ]))
  have hs5 := hb0.size
  refine wpO_call (later_moves) rfl rfl rfl (fun _ => by go_simp <;> rfl) ((HP.out _ _ _ _ _ hA (by have := h2.out; omega)).mono ?_)
  rintro e w6 ⟨v6, rfl, hP, hb6⟩
  refine ⟨_, rfl, hb6, ?_⟩
  replace hacc := (later_moves).trans _ _ _ hacc (hb6)
  simp only [Act.put, List.setIfInBounds_toArray, List.set_cons_zero, List.set_cons_succ]
  replace hb0 := below_chain hb0 hb6
  repeat (first | (refine wpO_skip (later_moves) rfl rfl (fun _ _ _ h => h) ?_ ; simp only [Act.put, List.setIfInBounds_toArray, List.set_cons_zero, List.set_cons_succ]) | (refine wpO_light (v := ?_) (later_moves) rfl rfl (fun _ _ _ h => h) ?_ ?_ ; rotate_left ; (· (intro w' hR ; (first | have hcells := later_cellsD ((later_moves).trans _ _ _ hacc hR) | skip) ; go_simp ; try with_reducible rfl)) ; simp only [Act.put, List.setIfInBounds_toArray, List.set_cons_zero, List.set_cons_succ]))
  refine wpO_done ?_
  go_wp2
  go_ret
  exact ⟨_, rfl, own_base hP hs5, hb0⟩

set_option maxRecDepth 100000 in
set_option maxHeartbeats 1000000 in
theorem rQuad_own (L : LayR) (v0 v1 v2 v4 : Value) (B : Option Addr) (m d : Nat) (q : List Nat) (w : World) (hL : LayOk L) (g0 : slc v0) (g1 : slc v1) (g2 : slc v2) (g4 : slc v4) (hk : RWd w [.slice B m d] q) (hm : m ≤ 30000) :
    Calls Tryz.prog 23 #[.agg (layCs L), .agg #[v0, v1, v2, .slice B m d, v4]] w fun e w' => ∃ v, e = .returned v ∧ w'.ownsRow w.heap.size 22 1 v (quadR L q).length (U64 (quadR L q)) ∧ Below w.heap.size w w' := by
  obtain ⟨hp1, hp2⟩ := okP_lt hL.p
  have hb2 := hL.b2
  have hk1 : L.k ≤ 400 := by have := hL.k; have := hL.q2; omega
  have hk2 : 2 ≤ L.k := by have := hL.k; have := hL.b1; omega
  have hml := (lw_at hk).1
  obtain ⟨A0, n0, c0, rfl⟩ := g0
  obtain ⟨A1, n1, c1, rfl⟩ := g1
  obtain ⟨A2, n2, c2, rfl⟩ := g2
  obtain ⟨A4, n4, c4, rfl⟩ := g4
  obtain ⟨t, ht⟩ : ∃ t, t = 2 * L.k - 1 := ⟨_, rfl⟩
  obtain ⟨u, hu⟩ : ∃ u, u = 2 * L.k := ⟨_, rfl⟩
  have HZ := Lib.hid (fun w => rZero_any L w hL)
  have HM := Lib.hid (fun A n c w' (hb : Below w.heap.size w w') ha hn => rMulP_any L.p A B n c m d (zeroP L.p L.block) q w' hL.p ha (kept_RWd _ _ _ _ hb hk) hn (by omega))
  have HP := Lib.hid (fun A n c l w hl hn => rPad_own A n c t l w hl hn (by omega))
  have HR := Lib.hid (show quadR L q = padP (mulP L.p (zeroP L.p L.block) q) t by rw [quadR, ht])
  rw [HR.out]
  have h1 := Lib.hid (show (mulP L.p (zeroP L.p L.block) q).length ≤ 40000 by have := mulP_len L.p (zeroP L.p L.block) q; rw [zeroP_len] at this; omega)
  have h3 := Lib.hid (zeroP_len L.p L.block)
  have h4 : L.block ≤ 256 := hb2
  have e1 : (2 : Int) * (L.k : Int) = (u : Int) := by omega
  have e2 : IntKind.i64.wrap (u : Int) = (u : Int) := wr_i64 _ (by omega) (by omega)
  have e3 : (u : Int) - 1 = (t : Int) := by omega
  have e4 : IntKind.i64.wrap (t : Int) = (t : Int) := wr_i64 _ (by omega) (by omega)
  generalize mulP L.p (zeroP L.p L.block) q = M at *
  clear HR hL hk hml hp1 hp2 hk1 hk2 hb2 hm ht hu
  unfold layCs at *
  obtain ⟨kl, kc, hb0, -⟩ := boxes2 w 34 41 #[.int .u64 (L.p : Int), .int .i64 (L.block : Int), .int .i64 (L.queries : Int), .int .i64 (L.k : Int), .int .i64 (L.n : Int), .int .i64 (L.secret : Int), .int .i64 (L.rows : Int), .int .i64 (L.a : Int), .int .i64 (L.b : Int), .int .i64 (L.b : Int), .int .i64 (L.b : Int)] #[.slice A0 n0 c0, .slice A1 n1 c1, .slice A2 n2 c2, .slice B m d, .slice A4 n4 c4]
  go_enter Tryz.func23, Tryz.ntmps23
  go_upto_region 1 with fail
  generalize (w.alloc _).alloc _ = w2 at kl kc hb0 ⊢
  have cl := kl.cell
  have ll := kl.lt
  have cc := kc.cell
  have lc := kc.lt
  refine wpO_begin (Later) [3, 6, 11] [0, 1, 2, 4, 5, 7, 8, 9, 10, 3, 6, 11, 12] (by kernel_rfl) (by kernel_rfl) ?_
  refine wpO_startK (later_moves) ?_
  intro Wc HWc hacc
  have hbW : Below w2.heap.size w2 Wc := by rw [HWc.out]; exact (Below.refl _ _).drew
  replace hb0 := below_chain hb0 hbW
  repeat (first | (refine wpO_skip (later_moves) rfl rfl (fun _ _ _ h => h) ?_ ; simp only [Act.put, List.setIfInBounds_toArray, List.set_cons_zero, List.set_cons_succ]) | (refine wpO_light (v := ?_) (later_moves) rfl rfl (fun _ _ _ h => h) ?_ ?_ ; rotate_left ; (· (intro w' hR ; (first | have hcells := later_cellsD ((later_moves).trans _ _ _ hacc hR) | skip) ; go_simp ; try with_reducible rfl)) ; simp only [Act.put, List.setIfInBounds_toArray, List.set_cons_zero, List.set_cons_succ]))
  refine wpO_call (later_moves) rfl rfl rfl (fun _ => by go_simp <;> rfl) ((HZ.out _).mono ?_)
  rintro e w3 ⟨v3, rfl, hZ, hb3⟩
  refine ⟨_, rfl, hb3, ?_⟩
  replace hacc := (later_moves).trans _ _ _ hacc (hb3)
  simp only [Act.put, List.setIfInBounds_toArray, List.set_cons_zero, List.set_cons_succ]
  replace hb0 := below_chain hb0 hb3
  obtain ⟨A3, c3, rfl⟩ := rwd_form hZ
  repeat (first | (refine wpO_skip (later_moves) rfl rfl (fun _ _ _ h => h) ?_ ; simp only [Act.put, List.setIfInBounds_toArray, List.set_cons_zero, List.set_cons_succ]) | (refine wpO_light (v := ?_) (later_moves) rfl rfl (fun _ _ _ h => h) ?_ ?_ ; rotate_left ; (· (intro w' hR ; (first | have hcells := later_cellsD ((later_moves).trans _ _ _ hacc hR) | skip) ; go_simp ; try with_reducible rfl)) ; simp only [Act.put, List.setIfInBounds_toArray, List.set_cons_zero, List.set_cons_succ]))
  refine wpO_call (later_moves) rfl rfl rfl (fun _ => by go_simp <;> rfl) ((HM.out _ _ _ _ hb0 hZ (by rw [h3.out]; omega)).mono ?_)
  rintro e w4 ⟨v4, rfl, hM, hb4⟩
  refine ⟨_, rfl, hb4, ?_⟩
  replace hacc := (later_moves).trans _ _ _ hacc (hb4)
  simp only [Act.put, List.setIfInBounds_toArray, List.set_cons_zero, List.set_cons_succ]
  replace hb0 := below_chain hb0 hb4
  obtain ⟨A5, c5, rfl⟩ := rwd_form hM
  repeat (first | (refine wpO_skip (later_moves) rfl rfl (fun _ _ _ h => h) ?_ ; simp only [Act.put, List.setIfInBounds_toArray, List.set_cons_zero, List.set_cons_succ]) | (refine wpO_light (v := ?_) (later_moves) rfl rfl (fun _ _ _ h => h) ?_ ?_ ; rotate_left ; (· (intro w' hR ; (first | have hcells := later_cellsD ((later_moves).trans _ _ _ hacc hR) | skip) ; go_simp ; try with_reducible rfl)) ; simp only [Act.put, List.setIfInBounds_toArray, List.set_cons_zero, List.set_cons_succ]))
  have hs5 := hb0.size
  refine wpO_call (later_moves) rfl rfl rfl (fun _ => by go_simp <;> rfl) ((HP.out _ _ _ _ _ hM (by have := h1.out; omega)).mono ?_)
  rintro e w6 ⟨v6, rfl, hP, hb6⟩
  refine ⟨_, rfl, hb6, ?_⟩
  replace hacc := (later_moves).trans _ _ _ hacc (hb6)
  simp only [Act.put, List.setIfInBounds_toArray, List.set_cons_zero, List.set_cons_succ]
  replace hb0 := below_chain hb0 hb6
  repeat (first | (refine wpO_skip (later_moves) rfl rfl (fun _ _ _ h => h) ?_ ; simp only [Act.put, List.setIfInBounds_toArray, List.set_cons_zero, List.set_cons_succ]) | (refine wpO_light (v := ?_) (later_moves) rfl rfl (fun _ _ _ h => h) ?_ ?_ ; rotate_left ; (· (intro w' hR ; (first | have hcells := later_cellsD ((later_moves).trans _ _ _ hacc hR) | skip) ; go_simp ; try with_reducible rfl)) ; simp only [Act.put, List.setIfInBounds_toArray, List.set_cons_zero, List.set_cons_succ]))
  refine wpO_done ?_
  go_wp2
  go_ret
  exact ⟨_, rfl, own_base hP hs5, hb0⟩

theorem padP_lt {l : List Nat} {B n : Nat} (hB : 0 < B) (h : ∀ x ∈ l, x < B) : ∀ x ∈ padP l n, x < B := fun x hx => by
  rcases List.mem_append.1 hx with h' | h'
  · exact h x h'
  · rw [(List.mem_replicate.1 h').2]; exact hB
theorem mulP_lt {p : Nat} (hp : 0 < p) {a b : List Nat} {x : Nat} (h : x ∈ mulP p a b) : x < p := by
  unfold mulP at h
  cases e : a.length with
  | zero => rw [e] at h; cases h
  | succ k => rw [e, mulK] at h; exact trimP_lt hp h
theorem rwd_agree {w u : World} {v : Value} {l : List Nat} (h : RWd w [v] l) (ha : ∀ b, b < w.heap.size → u.heap[b]? = w.heap[b]?) : RWd u [v] l := by
  obtain ⟨A, n, c, he, h1, h2, h3, h4⟩ := h
  refine ⟨A, n, c, he, h1, h2, ⟨h3.1, fun h0 => ?_⟩, h4⟩
  obtain ⟨ad, e, hc⟩ := h3.2 h0
  refine ⟨ad, e, fun j x hj => ?_⟩
  have hx := hc j x hj
  have hb := World.block_lt_of_cell? _ _ hx
  rw [← hx]
  unfold World.cell?
  rw [ha _ hb]
/-- A row that was there before stays apart from what is new. -/
theorem rwx_old {w0 w : World} {gb : Option Nat} {v : Value} {l : List Nat} (h : RWd w0 [v] l) (hb : Below w0.heap.size w0 w) (hg : ∀ q, gb = some q → w0.heap.size ≤ q) : RWx 0 gb w v l := fun u hu =>
  rwd_agree h fun b hlt => (hu b (Nat.zero_le _) (Nat.lt_of_lt_of_le hlt hb.size) fun e => by have := hg b e.symm; omega).trans (hb.block b hlt)
end Go.Proofs.YtefnagiffllhbaaGreat

/- FldP -/
namespace Go.Proofs.YtefnagiffllhbaaGreat

/-- The prime factors of p - 1. -/
def facs (p : Nat) : List Nat :=
  if p = 97 then [2, 3] else if p = 193 then [2, 3] else if p = 12289 then [2, 3] else if p = 18446744069414584321 then [2, 3, 5, 17, 257, 65537] else [2]
/-- The generator's power with the exponent (p - 1) / q is not 1. -/
theorem gen_order {p : Nat} (h : okP p = true) : ∀ q ∈ facs p, (p - 1) % q = 0 ∧ sqm p 64 (rowOf p).1 ((p - 1) / q) ≠ 1 ∧ sqm p 64 (rowOf p).1 ((p - 1) / q) < p ∧ (p - 1) / q < 2 ^ 64 := by
  rcases okP_cases h with rfl | rfl | rfl | rfl | rfl | rfl | rfl <;> decide +kernel
/-- p - 1 is a product of these factors. -/
def prodL : List (Nat × Nat) → Nat
  | [] => 1
  | (q, e) :: l => q ^ e * prodL l
def facE (p : Nat) : List (Nat × Nat) :=
  if p = 97 then [(2, 5), (3, 1)] else if p = 193 then [(2, 6), (3, 1)] else if p = 12289 then [(2, 12), (3, 1)] else if p = 18446744069414584321 then [(2, 32), (3, 1), (5, 1), (17, 1), (257, 1), (65537, 1)] else [(2, (rowOf p).2.1)]
theorem facE_ok {p : Nat} (h : okP p = true) : prodL (facE p) = p - 1 ∧ ((facE p).map (·.1)) = facs p := by
  rcases okP_cases h with rfl | rfl | rfl | rfl | rfl | rfl | rfl <;> decide +kernel
/-- These factors are primes. -/
def noDiv (q : Nat) : Nat → Bool
  | 0 => true
  | k + 1 => noDiv q k && (k < 2 || q % k != 0)
theorem noDiv_spec {q : Nat} : ∀ n, noDiv q n = true → ∀ k, 2 ≤ k → k < n → q % k ≠ 0
  | 0, _, k, _, h => by omega
  | n + 1, hn, k, h2, hk => by
    simp [noDiv] at hn
    by_cases e : k = n
    · subst e
      have := hn.2
      omega
    · exact noDiv_spec n hn.1 k h2 (by omega)
theorem facs_prime {p q : Nat} (h : okP p = true) (hq : q ∈ facs p) : 2 ≤ q ∧ q ≤ 65537 := by
  have : ∀ q ∈ facs p, 2 ≤ q ∧ q ≤ 65537 := by
    rcases okP_cases h with rfl | rfl | rfl | rfl | rfl | rfl | rfl <;> decide +kernel
  exact this q hq

/-- The first positive exponent at which the generator's power is 1 divides every such exponent. -/
theorem pow_gcd {p : Nat} {g : Int} (hg : ∃ v, Cg p (g * v) 1) : ∀ (n a b : Nat), a + b ≤ n → Cg p (g ^ a) 1 → Cg p (g ^ b) 1 → Cg p (g ^ Nat.gcd a b) 1
  | 0, a, b, h, ha, hb => by
    have h1 : a = 0 := by omega
    have h2 : b = 0 := by omega
    subst h1 h2
    exact ha
  | n + 1, a, b, h, ha, hb => by
    obtain ⟨v, hv⟩ := hg
    rcases Nat.eq_zero_or_pos a with h0 | h0
    · subst h0; rw [Nat.gcd_zero_left]; exact hb
    rcases Nat.eq_zero_or_pos b with h1 | h1
    · subst h1; rw [Nat.gcd_zero_right]; exact ha
    have cancel : ∀ s t : Nat, Cg p (g ^ (s + t)) 1 → Cg p (g ^ s) 1 → Cg p (g ^ t) 1 := fun s t h1 h2 => by
      rw [Int.pow_add] at h1
      exact ((Cg.of_eq (Int.one_mul _).symm).trans (h2.symm.mul Cg.rfl')).trans h1
    rcases Nat.le_total a b with hab | hab
    · obtain ⟨d, rfl⟩ : ∃ d, b = a + d := ⟨b - a, by omega⟩
      have := pow_gcd ⟨v, hv⟩ n a d (by omega) ha (cancel _ _ hb ha)
      rwa [Nat.gcd_self_add_right]
    · obtain ⟨d, rfl⟩ : ∃ d, a = b + d := ⟨a - b, by omega⟩
      have := pow_gcd ⟨v, hv⟩ n d b (by omega) (cancel _ _ ha hb) hb
      rwa [Nat.gcd_self_add_left]
/-- A divisor of p - 1 that is not p - 1 divides (p - 1) / q for one of the factors. -/
theorem proper_div : ∀ (l : List (Nat × Nat)) (d : Nat), (∀ x ∈ l, ∀ k, k ∣ x.1 → k = 1 ∨ k = x.1) → d ∣ prodL l → d ≠ prodL l → ∃ x ∈ l, d ∣ prodL l / x.1
  | l, d, hp, hd, hne => by
    obtain ⟨m, hm⟩ := hd
    have hm1 : m ≠ 1 := fun e => by rw [e, Nat.mul_one] at hm; exact hne hm.symm
    -- some factor divides m
    have key : ∀ (l' : List (Nat × Nat)), (∀ x ∈ l', ∀ k, k ∣ x.1 → k = 1 ∨ k = x.1) → (∀ x ∈ l', ¬ x.1 ∣ m) → Nat.Coprime m (prodL l') := by
      intro l'
      induction l' with
      | nil => intro _ _; exact Nat.coprime_one_right m
      | cons x l' ih =>
        intro h1 h2
        have hc : Nat.Coprime m x.1 := by
          rcases h1 x (.head _) (Nat.gcd m x.1) (Nat.gcd_dvd_right _ _) with e | e
          · exact e
          · exact absurd (e ▸ Nat.gcd_dvd_left m x.1) (h2 x (.head _))
        exact Nat.Coprime.mul_right (Nat.Coprime.pow_right _ hc) (ih (fun y hy => h1 y (.tail _ hy)) fun y hy => h2 y (.tail _ hy))
    by_cases hx : ∃ x ∈ l, x.1 ∣ m
    · obtain ⟨x, hxl, c, hc⟩ := hx
      refine ⟨x, hxl, ?_⟩
      rcases Nat.eq_zero_or_pos x.1 with h0 | h0
      · rw [h0, Nat.div_zero]
        exact Nat.dvd_zero _
      · rw [hm, hc, ← Nat.mul_assoc, Nat.mul_comm d x.1, Nat.mul_assoc, Nat.mul_div_cancel_left _ h0]
        exact Nat.dvd_mul_right _ _
    · have hco := key l hp fun x hx' hd' => hx ⟨x, hx', hd'⟩
      have hmd : m ∣ prodL l := by rw [hm]; exact Nat.dvd_mul_left _ _
      exact absurd (hco.eq_one_of_dvd hmd) hm1
end Go.Proofs.YtefnagiffllhbaaGreat

/- FldQ -/
namespace Go.Proofs.YtefnagiffllhbaaGreat

theorem smallDiv : ∀ q ∈ [2, 3, 5, 17, 257, 65537], ∀ k ∈ List.range 257, q % k = 0 → k = 1 ∨ k = q := by decide +kernel
theorem facs_div {p q : Nat} (h : okP p = true) (hq : q ∈ facs p) : ∀ k, k ∣ q → k = 1 ∨ k = q := by
  have hin : q ∈ [2, 3, 5, 17, 257, 65537] := by
    have : ∀ q ∈ facs p, q ∈ [2, 3, 5, 17, 257, 65537] := by
      rcases okP_cases h with rfl | rfl | rfl | rfl | rfl | rfl | rfl <;> decide +kernel
    exact this q hq
  obtain ⟨h2, hle⟩ := facs_prime h hq
  intro k ⟨c, hc⟩
  rcases Nat.lt_or_ge k 257 with hk | hk
  · exact smallDiv q hin k (List.mem_range.2 hk) (by rw [hc]; exact Nat.mul_mod_right _ _)
  · have hcl : c < 257 := by
      rcases Nat.lt_or_ge c 257 with h' | h'
      · exact h'
      · have := Nat.mul_le_mul hk h'
        omega
    rcases smallDiv q hin c (List.mem_range.2 hcl) (by rw [hc]; exact Nat.mul_mod_left _ _) with h' | h'
    · right; rw [hc, h', Nat.mul_one]
    · left
      rw [h'] at hc
      have : q * 1 = q * k := by rw [Nat.mul_one, Nat.mul_comm]; exact hc
      exact (Nat.eq_of_mul_eq_mul_left (by omega) this).symm
theorem gen_full {p k : Nat} (h : okP p = true) (h0 : 0 < k) (hk : k < p - 1) : ¬ Cg p (((rowOf p).1 : Int) ^ k) 1 := by
  intro hc
  have hp := okP_lt h
  have hinv : ∃ v, Cg p (((rowOf p).1 : Int) * v) 1 := ⟨((rowOf p).1 : Int) ^ (p - 2), by
    rw [Int.mul_comm, ← Int.pow_succ, show (p - 2).succ = p - 1 by omega]
    exact gen_one h⟩
  have hd := pow_gcd hinv _ k (p - 1) (Nat.le_refl _) hc (gen_one h)
  have hdd : Nat.gcd k (p - 1) ∣ p - 1 := Nat.gcd_dvd_right _ _
  have hdk : Nat.gcd k (p - 1) ≤ k := Nat.le_of_dvd h0 (Nat.gcd_dvd_left _ _)
  obtain ⟨e1, e2⟩ := facE_ok h
  have hmem : ∀ x ∈ facE p, x.1 ∈ facs p := fun x hx => by rw [← e2]; exact List.mem_map.2 ⟨x, hx, rfl⟩
  obtain ⟨x, hx, hdx⟩ := proper_div (facE p) (Nat.gcd k (p - 1)) (fun x hx => facs_div h (hmem x hx)) (by rw [e1]; exact hdd) (by rw [e1]; omega)
  rw [e1] at hdx
  obtain ⟨-, g1, g2, g3⟩ := gen_order h x.1 (hmem x hx)
  have hs := sqm_cg p 64 (rowOf p).1 ((p - 1) / x.1) g3
  obtain ⟨c, hc'⟩ := hdx
  have h1 : Cg p (((rowOf p).1 : Int) ^ ((p - 1) / x.1)) 1 := by
    rw [hc', Int.pow_mul]
    exact (hd.pow c).trans (Cg.of_eq Int.one_pow)
  exact g1 (Cg.eq (p := p) (hs.trans h1) g2 (by omega))

/-- No injection into fewer numbers. -/
theorem pigeon : ∀ (n : Nat) (f : Nat → Nat), (∀ i, i < n + 1 → f i < n) → (∀ i j, i < n + 1 → j < n + 1 → f i = f j → i = j) → False
  | 0, f, h, _ => absurd (h 0 (by omega)) (Nat.not_lt_zero _)
  | n + 1, f, h, hi => by
    have hne : ∀ i, i < n + 1 → f i ≠ f (n + 1) := fun i h1 e => by
      have := hi i (n + 1) (by omega) (by omega) e
      omega
    refine pigeon n (fun i => if f i = n then f (n + 1) else f i) (fun i h1 => ?_) fun i j h1 h2 e => ?_
    · split
      · rename_i e
        have h3 := hne i h1
        have h4 := h (n + 1) (by omega)
        omega
      · have := h i (by omega)
        omega
    · change (if f i = n then f (n + 1) else f i) = (if f j = n then f (n + 1) else f j) at e
      by_cases e1 : f i = n <;> by_cases e2 : f j = n
      · exact hi i j (by omega) (by omega) (by omega)
      · rw [if_pos e1, if_neg e2] at e
        exact absurd e.symm (hne j h2)
      · rw [if_neg e1, if_pos e2] at e
        exact absurd e (hne i h1)
      · rw [if_neg e1, if_neg e2] at e
        exact hi i j (by omega) (by omega) e
theorem onto {n : Nat} {f : Nat → Nat} (h : ∀ i, i < n → f i < n) (hi : ∀ i j, i < n → j < n → f i = f j → i = j) {y : Nat} (hy : y < n) : ∃ i, i < n ∧ f i = y := by
  refine Classical.byContradiction fun hno => ?_
  have hne : ∀ i, i < n → f i ≠ y := fun i h1 e => hno ⟨i, h1, e⟩
  obtain ⟨m, rfl⟩ : ∃ m, n = m + 1 := ⟨n - 1, by omega⟩
  refine pigeon m (fun i => if f i = m then y else f i) (fun i h1 => ?_) fun i j h1 h2 e => ?_
  · split
    · rename_i e
      have := hne i h1
      omega
    · have := h i h1
      omega
  · change (if f i = m then y else f i) = (if f j = m then y else f j) at e
    by_cases e1 : f i = m <;> by_cases e2 : f j = m
    · exact hi i j h1 h2 (by omega)
    · rw [if_pos e1, if_neg e2] at e
      exact absurd e.symm (hne j h2)
    · rw [if_neg e1, if_pos e2] at e
      exact absurd e (hne i h1)
    · rw [if_neg e1, if_neg e2] at e
      exact hi i j h1 h2 e

theorem one_ne {p : Nat} (h : okP p = true) : ¬ Cg p (0 : Int) 1 := by
  have hp := okP_lt h
  intro hc
  have := Cg.eq (p := p) (a := 0) (b := 1) hc (by omega) (by omega)
  omega
/-- Each residue that is not zero is a power of the generator. -/
theorem gen_power {p a : Nat} (h : okP p = true) (h0 : 0 < a) (ha : a < p) : ∃ k, (rowOf p).1 ^ k % p = a := by
  have hp := okP_lt h
  have hpos : ∀ i, 0 < (rowOf p).1 ^ i % p := fun i => by
    rcases Nat.eq_zero_or_pos ((rowOf p).1 ^ i % p) with e | e
    · exfalso
      have h1 : Cg p (((rowOf p).1 : Int) ^ i) 0 := by
        have h2 := Cg.mod (p := p) ((rowOf p).1 ^ i)
        rw [e, Int.natCast_pow] at h2
        exact h2.symm
      have h2 : Cg p ((((rowOf p).1 : Int) ^ i) ^ (p - 1)) 1 := by
        rw [← Int.pow_mul, Nat.mul_comm, Int.pow_mul]
        exact ((gen_one h).pow i).trans (Cg.of_eq Int.one_pow)
      have h3 := (h1.pow (p - 1)).symm.trans h2
      rw [Int.zero_pow (by omega)] at h3
      exact one_ne h h3
    · exact e
  obtain ⟨i, -, hi⟩ := onto (n := p - 1) (f := fun i => (rowOf p).1 ^ i % p - 1) (fun i _ => by
      have := hpos i
      have := Nat.mod_lt ((rowOf p).1 ^ i) (show p > 0 by omega)
      show (rowOf p).1 ^ i % p - 1 < p - 1
      omega) (fun i j h1 h2 e => by
      have e' : (rowOf p).1 ^ i % p = (rowOf p).1 ^ j % p := by
        have := hpos i
        have := hpos j
        change (rowOf p).1 ^ i % p - 1 = (rowOf p).1 ^ j % p - 1 at e
        omega
      have key : ∀ i j, i < j → j < p - 1 → (rowOf p).1 ^ i % p = (rowOf p).1 ^ j % p → False := fun i j hij hj e => by
        have c1 : Cg p (((rowOf p).1 : Int) ^ i) (((rowOf p).1 : Int) ^ j) := by
          have h1 := Cg.mod (p := p) ((rowOf p).1 ^ i)
          have h2 := Cg.mod (p := p) ((rowOf p).1 ^ j)
          rw [e] at h1
          rw [Int.natCast_pow] at h1 h2
          exact h1.symm.trans h2
        obtain ⟨d, rfl⟩ : ∃ d, j = i + d := ⟨j - i, by omega⟩
        rw [Int.pow_add] at c1
        have c2 : Cg p (((rowOf p).1 : Int) ^ (i * (p - 2)) * ((rowOf p).1 : Int) ^ i) 1 := by
          rw [← Int.pow_add, show i * (p - 2) + i = (p - 1) * i by
            rw [Nat.mul_comm (p - 1), ← Nat.mul_succ]
            congr 1
            omega, Int.pow_mul]
          exact ((gen_one h).pow i).trans (Cg.of_eq Int.one_pow)
        have c3 := (Cg.rfl' (x := ((rowOf p).1 : Int) ^ (i * (p - 2)))).mul c1
        rw [← Int.mul_assoc] at c3
        have c4 : Cg p (((rowOf p).1 : Int) ^ d) 1 := ((Cg.of_eq (Int.one_mul _).symm).trans (c2.symm.mul Cg.rfl')).trans (c3.symm.trans c2)
        exact gen_full h (by omega) (by omega) c4
      rcases Nat.lt_trichotomy i j with hlt | heq | hgt
      · exact absurd e' fun e => key i j hlt h2 e
      · exact heq
      · exact absurd e'.symm fun e => key j i hgt h1 e) (y := a - 1) (by omega)
  refine ⟨i, ?_⟩
  have := hpos i
  change (rowOf p).1 ^ i % p - 1 = a - 1 at hi
  omega
theorem inv_nat {p a : Nat} (h : okP p = true) (h0 : 0 < a) (ha : a < p) : Cg p ((a : Int) * ((a ^ (p - 2) % p : Nat) : Int)) 1 := by
  have hp := okP_lt h
  obtain ⟨k, hk⟩ := gen_power h h0 ha
  have h1 : Cg p (a : Int) (((rowOf p).1 : Int) ^ k) := by
    have := Cg.mod (p := p) ((rowOf p).1 ^ k)
    rw [hk, Int.natCast_pow] at this
    exact this
  refine (Cg.rfl'.mul (Cg.mod _)).trans ?_
  rw [Int.natCast_pow, Int.mul_comm, ← Int.pow_succ, show (p - 2).succ = p - 1 by omega]
  refine (h1.pow _).trans ?_
  rw [← Int.pow_mul, Nat.mul_comm, Int.pow_mul]
  exact ((gen_one h).pow k).trans (Cg.of_eq Int.one_pow)
/-- Inverses of numbers that are not reduced. -/
theorem inv_any {p a : Nat} (h : okP p = true) (h0 : ¬ Cg p (a : Int) 0) : Cg p ((a : Int) * ((a ^ (p - 2) % p : Nat) : Int)) 1 := by
  have hp := okP_lt h
  have h1 : a % p ≠ 0 := fun e => h0 (by
    have := Cg.mod (p := p) a
    rw [e] at this
    exact this.symm)
  have := inv_nat h (Nat.pos_of_ne_zero h1) (Nat.mod_lt a (by omega))
  rw [← Nat.pow_mod] at this
  exact ((Cg.mod a).symm.mul Cg.rfl').trans this
theorem inv_int {p : Nat} {x : Int} (h : okP p = true) (h0 : ¬ Cg p x 0) : ∃ v, Cg p (x * v) 1 := by
  have hp := okP_lt h
  obtain ⟨a, ha⟩ : ∃ a : Nat, (a : Int) = x % (p : Int) := ⟨(x % (p : Int)).toNat, Int.toNat_of_nonneg (Int.emod_nonneg _ (by omega))⟩
  have hx : Cg p x (a : Int) := ⟨x / (p : Int), by rw [ha]; have := Int.mul_ediv_add_emod x (p : Int); omega⟩
  exact ⟨_, (hx.mul Cg.rfl').trans (inv_any h fun e => h0 (hx.trans e))⟩
theorem mul_zero_cg {p : Nat} {x y : Int} (h : okP p = true) (hxy : Cg p (x * y) 0) : Cg p x 0 ∨ Cg p y 0 := by
  by_cases hx : Cg p x 0
  · exact .inl hx
  · obtain ⟨v, hv⟩ := inv_int h hx
    refine .inr ?_
    have h1 : Cg p y (v * (x * y)) := (Cg.of_eq (Int.one_mul y).symm).trans ((hv.symm.mul Cg.rfl').trans (Cg.of_eq (by rw [Int.mul_comm x v, Int.mul_assoc])))
    exact h1.trans ((Cg.rfl'.mul hxy).trans (Cg.of_eq (Int.mul_zero _)))
end Go.Proofs.YtefnagiffllhbaaGreat

/- PolE -/
namespace Go.Proofs.YtefnagiffllhbaaGreat

/-- The coefficients, as integers. -/
def cfI (l : List Nat) (i : Nat) : Int := ((l.getD i 0 : Nat) : Int)
def evL (l : List Nat) (x : Int) : Int := evI (cfI l) x l.length
theorem evI_more {a : Nat → Int} {x : Int} {m : Nat} (h : ∀ i, m ≤ i → a i = 0) : ∀ t, evI a x (m + t) = evI a x m
  | 0 => rfl
  | t + 1 => by
    rw [← Nat.add_assoc, evI, evI_more h t, h (m + t) (by omega), Int.zero_mul, Int.add_zero]
theorem evL_ext (l : List Nat) (x : Int) {n : Nat} (h : l.length ≤ n) : evI (cfI l) x n = evL l x := by
  obtain ⟨t, rfl⟩ : ∃ t, n = l.length + t := ⟨n - l.length, by omega⟩
  exact evI_more (fun i hi => by rw [cfI, getD_out hi]; rfl) t
theorem evI_add (a b : Nat → Int) (x : Int) : ∀ n, evI (fun i => a i + b i) x n = evI a x n + evI b x n
  | 0 => rfl
  | n + 1 => by rw [evI, evI, evI, evI_add a b x n, Int.add_mul]; omega
theorem evI_mul (c : Int) (a : Nat → Int) (x : Int) : ∀ n, evI (fun i => c * a i) x n = c * evI a x n
  | 0 => by rw [evI, evI, Int.mul_zero]
  | n + 1 => by rw [evI, evI, evI_mul c a x n, Int.mul_add, Int.mul_assoc]
theorem evL_cg {p : Nat} {a b : List Nat} (x : Int) (h : ∀ i, Cg p (cfI a i) (cfI b i)) : Cg p (evL a x) (evL b x) := by
  rw [← evL_ext a x (n := max a.length b.length) (by omega), ← evL_ext b x (n := max a.length b.length) (by omega)]
  exact evI_cg h Cg.rfl' _
theorem ev_trimP {p : Nat} (l : List Nat) (x : Int) : Cg p (evL (trimP p l) x) (evL l x) := evL_cg x fun i => by
  unfold cfI
  rw [trimP_get]
  exact Cg.mod _
theorem ev_padP (l : List Nat) (n : Nat) (x : Int) : evL (padP l n) x = evL l x := by
  rw [← evL_ext l x (n := (padP l n).length) (by rw [padP_len]; omega)]
  unfold evL
  congr 1
  funext i
  unfold cfI
  rw [padP_get]
theorem ev_addP {p : Nat} (a b : List Nat) (x : Int) : Cg p (evL (addP p a b) x) (evL a x + evL b x) := by
  have hl := addP_len p a b
  rw [← evL_ext (addP p a b) x (n := max a.length b.length) hl, ← evL_ext a x (n := max a.length b.length) (by omega), ← evL_ext b x (n := max a.length b.length) (by omega), ← evI_add]
  refine evI_cg (fun i => ?_) Cg.rfl' _
  unfold cfI
  rw [addP_get]
  exact (Cg.mod _).trans (Cg.of_eq (Int.natCast_add _ _))
theorem ev_scaleP {p : Nat} (a : List Nat) (n : Nat) (x : Int) : Cg p (evL (scaleP p a n) x) ((n : Int) * evL a x) := by
  rw [← evL_ext (scaleP p a n) x (scaleP_len p a n), evL, ← evI_mul]
  refine evI_cg (fun i => ?_) Cg.rfl' _
  unfold cfI
  rw [scaleP_get]
  exact (Cg.mod _).trans (Cg.of_eq (by rw [Int.natCast_mul, Int.mul_comm]))
theorem evI_head (a : Nat → Int) (x : Int) (k : Nat) (h : ∀ i, i < k → a i = 0) : ∀ n, evI a x (k + n) = x ^ k * evI (fun i => a (k + i)) x n
  | 0 => by
    show evI a x k = x ^ k * 0
    rw [Int.mul_zero, evI_sum, ← sumI_zero k]
    have : ∀ n, n ≤ k → sumI (fun i => a i * x ^ i) n = sumI (fun _ => 0) n := fun n => by
      induction n with
      | zero => exact fun _ => rfl
      | succ n ih => intro hn; rw [sumI, sumI, ih (by omega), h n (by omega), Int.zero_mul]
    exact this k (Nat.le_refl _)
  | n + 1 => by
    rw [← Nat.add_assoc, evI, evI_head a x k h n, evI, Int.mul_add, Int.pow_add]
    congr 1
    rw [← Int.mul_assoc, ← Int.mul_assoc, Int.mul_comm (a (k + n))]
theorem ev_shiftP (a : List Nat) (k : Nat) (x : Int) : evL (shiftP a k) x = x ^ k * evL a x := by
  have e : (shiftP a k).length = k + a.length := shiftP_len a k
  unfold evL
  rw [e, evI_head _ _ k (fun i hi => by unfold cfI; rw [shiftP_get, if_pos hi]; rfl)]
  congr 2
  funext i
  unfold cfI
  rw [shiftP_get, if_neg (by omega), Nat.add_sub_cancel_left]
theorem ev_mulK {p : Nat} (a b : List Nat) (x : Int) : ∀ k, Cg p (evL (mulK p a b k) x) (evI (cfI a) x k * evL b x)
  | 0 => Cg.of_eq (by rw [mulK, evI, Int.zero_mul]; rfl)
  | k + 1 => by
    rw [mulK, evI, Int.add_mul]
    refine (ev_addP _ _ x).trans ((ev_mulK a b x k).add ?_)
    rw [ev_shiftP]
    refine (Cg.rfl'.mul (ev_scaleP b _ x)).trans (Cg.of_eq ?_)
    rw [← Int.mul_assoc, Int.mul_comm (x ^ k)]
    rfl
theorem ev_mulP {p : Nat} (a b : List Nat) (x : Int) : Cg p (evL (mulP p a b) x) (evL a x * evL b x) := ev_mulK a b x _
theorem evalP_ev {p x : Nat} (l : List Nat) : Cg p (evalP p l x : Int) (evL l x) := evalP_cg l

/-- The quotient by X - r. -/
def quoI (a : Nat → Int) (r : Int) (n i : Nat) : Int := evI (fun j => a (i + j)) r (n - i)
theorem quoI_step (a : Nat → Int) (r : Int) {n i : Nat} (h : i < n) : quoI a r n i = a i + r * quoI a r n (i + 1) := by
  unfold quoI
  rw [show n - i = (n - (i + 1)) + 1 by omega, evI_shift]
  rw [Nat.add_zero]
  congr 3
  funext j
  congr 1
  omega
theorem quo_eq (a : Nat → Int) (r x : Int) (n : Nat) : ∀ m, m ≤ n → evI a x m = quoI a r n 0 + (x - r) * evI (fun i => quoI a r n (i + 1)) x m - quoI a r n m * x ^ m
  | 0, _ => by rw [evI, evI, Int.mul_zero, Int.pow_zero]; omega
  | m + 1, h => by
    rw [evI, quo_eq a r x n m (by omega), evI, quoI_step a r (i := m) (by omega), Int.pow_succ]
    grind
theorem quo_root (a : Nat → Int) (r x : Int) (n : Nat) : evI a x (n + 1) = evI a r (n + 1) + (x - r) * evI (fun i => quoI a r (n + 1) (i + 1)) x n := by
  have h := quo_eq a r x (n + 1) (n + 1) (Nat.le_refl _)
  have h1 : quoI a r (n + 1) (n + 1) = 0 := by unfold quoI; rw [Nat.sub_self]; rfl
  have h0 : quoI a r (n + 1) 0 = evI a r (n + 1) := by
    unfold quoI
    rw [Nat.sub_zero]
    congr 1
    funext j
    rw [Nat.zero_add]
  rw [h1, h0, Int.zero_mul, Int.sub_zero] at h
  have e : evI (fun i => quoI a r (n + 1) (i + 1)) x (n + 1) = evI (fun i => quoI a r (n + 1) (i + 1)) x n := by rw [evI, h1, Int.zero_mul, Int.add_zero]
  rw [h, e]
/-- n different roots: all n coefficients are zero. -/
theorem all_zero {p : Nat} (h : okP p = true) : ∀ (n : Nat) (a : Nat → Int) (xs : Nat → Int), (∀ i j, i < n → j < n → i ≠ j → ¬ Cg p (xs i) (xs j)) → (∀ k, k < n → Cg p (evI a (xs k) n) 0) → ∀ i, i < n → Cg p (a i) 0
  | 0, _, _, _, _ => fun i hi => absurd hi (Nat.not_lt_zero _)
  | n + 1, a, xs, hx, hr => by
    have hq : ∀ i, i < n → Cg p (quoI a (xs n) (n + 1) (i + 1)) 0 := all_zero h n (fun i => quoI a (xs n) (n + 1) (i + 1)) xs (fun i j hi hj hne => hx i j (by omega) (by omega) hne) fun k hk => by
      have h1 := hr k (by omega)
      rw [quo_root a (xs n) (xs k) n] at h1
      have h2 := hr n (by omega)
      have h3 : Cg p ((xs k - xs n) * evI (fun i => quoI a (xs n) (n + 1) (i + 1)) (xs k) n) 0 := by
        have := (h1.trans h2.symm)
        obtain ⟨c, hc⟩ := this
        exact ⟨c, by rw [← hc]; omega⟩
      rcases mul_zero_cg h h3 with h4 | h4
      · exact absurd (by obtain ⟨c, hc⟩ := h4; exact ⟨c, by rw [← hc]; omega⟩) (hx k n (by omega) (by omega) (by omega))
      · exact h4
    have hq' : ∀ i, i < n + 1 → Cg p (quoI a (xs n) (n + 1) (i + 1)) 0 := fun i hi => by
      rcases Nat.lt_or_ge i n with h1 | h1
      · exact hq i h1
      · have e : i = n := by omega
        subst e
        unfold quoI
        rw [Nat.sub_self]
        exact Cg.rfl'
    have h0 : Cg p (quoI a (xs n) (n + 1) 0) 0 := by
      have e : quoI a (xs n) (n + 1) 0 = evI a (xs n) (n + 1) := by
        unfold quoI
        rw [Nat.sub_zero]
        congr 1
        funext j
        rw [Nat.zero_add]
      rw [e]
      exact hr n (by omega)
    intro i hi
    have hs := quoI_step a (xs n) hi
    have h1 : Cg p (quoI a (xs n) (n + 1) i) 0 := by
      cases i with
      | zero => exact h0
      | succ i => exact hq' i (by omega)
    rw [hs] at h1
    have h2 := (Cg.rfl' (p := p) (x := xs n)).mul (hq' i hi)
    rw [Int.mul_zero] at h2
    obtain ⟨c, hc⟩ := h1
    obtain ⟨d, hd⟩ := h2
    exact ⟨c - d, by rw [Int.mul_sub, ← hc, ← hd]; omega⟩
/-- Two polynomials of n coefficients with the same values at n points are equal. -/
theorem same_values {p n : Nat} (h : okP p = true) {a b : Nat → Int} {xs : Nat → Int} (hx : ∀ i j, i < n → j < n → i ≠ j → ¬ Cg p (xs i) (xs j)) (hv : ∀ k, k < n → Cg p (evI a (xs k) n) (evI b (xs k) n)) : ∀ i, i < n → Cg p (a i) (b i) := fun i hi => by
  have := all_zero h n (fun i => a i + (-1) * b i) xs hx (fun k hk => by
    rw [evI_add, evI_mul]
    exact ((hv k hk).add (Cg.rfl' (x := (-1) * evI b (xs k) n))).trans (Cg.of_eq (by omega))) i hi
  obtain ⟨c, hc⟩ := this
  exact ⟨c, by rw [← hc]; omega⟩
end Go.Proofs.YtefnagiffllhbaaGreat

/- PlA -/
namespace Go.Proofs.YtefnagiffllhbaaGreat
open Go.RowKit

set_option maxRecDepth 100000 in
set_option maxHeartbeats 1000000 in
theorem pEval_any (p : Nat) (A : Option Addr) (n c x : Nat) (l : List Nat) (w : World) (hp : okP p = true) (hl : RWd w [.slice A n c] l) :
    Calls Tryz.prog 62 #[fv p, .slice A n c, .int .u64 (x : Int)] w fun e w' => e = .returned (.int .u64 ((hornP p x l : Nat) : Int)) ∧ Below w.heap.size w w' := by
  obtain ⟨rfl, h1, h2, hlt, hrd⟩ := lw_at hl
  have gm := lw_max h1 h2
  have HM := Lib.hid (fun a b w => fMul_any p a b w hp)
  have HA := Lib.hid (fun a b w => fAdd_any p a b w hp)
  have HD := Lib.hid (hornP_drop p x l)
  obtain ⟨f, hf⟩ : ∃ f, f = fun k => hornP p x (l.drop k) := ⟨_, rfl⟩
  have HF0 := Lib.hid (show f 0 = hornP p x l by rw [hf]; rfl)
  have HF9 := Lib.hid (show f l.length = 0 by rw [hf]; simp [hornP])
  have HF := Lib.hid (fun k (hk : k < l.length) => show f k = (f (k + 1) * x % p + l.getD k 0) % p by rw [hf]; exact HD.out k hk)
  rw [← HF0.out]
  clear HD hl h1 h2 hp hlt hf HF0
  obtain ⟨m, hm⟩ : ∃ m : Int, m = (l.length : Int) - 1 := ⟨_, rfl⟩
  have g0 : (l.length : Int) - 1 = m := hm.symm
  have gw : IntKind.i64.wrap m = m := wr_i64 _ (by omega) (by omega)
  have HMM := Lib.hid hm
  clear hm
  unfold fv at *
  have kf := Blk.new w 84 #[.int .u64 (p : Int)]
  have hb0 : Below w.heap.size w (w.alloc (.cells #[.int .u64 (p : Int)] 84)) := (Below.refl _ _).alloc (Nat.le_refl _) _
  go_enter Tryz.func62, Tryz.ntmps62
  go_upto_region 1 with fail
  generalize w.alloc _ = w0 at kf hb0 ⊢
  go_wp2_with fail
  clear g0 gw
  go_loopw [7, 8] (fun y i wr => ∃ (k : Nat) (j : Int), Hid (j + 1 = (k : Int)) ∧ k ≤ l.length ∧ i = .int .i64 j ∧ y = .int .u64 (f k : Int) ∧ Blk wr w.heap.size 84 #[.int .u64 (p : Int)] ∧ Below w.heap.size w wr) (fun _ i _ => (intOf i + 1).toNat)
  case atStart => exact ⟨l.length, m, Lib.hid (by have := HMM.out; omega), Nat.le_refl _, rfl, by rw [HF9.out]; rfl, kf, hb0⟩
  case round =>
    clear kf hb0
    obtain ⟨k, j, HJ, hk, rfl, rfl, kf, hb⟩ := hrel
    rcases Nat.eq_zero_or_pos k with h0 | h0
    · subst h0
      have hj : j = -1 := by have := HJ.out; omega
      subst hj
      go_wp2
      go_ret
      exact ⟨rfl, hb⟩
    · obtain ⟨i, hi⟩ : ∃ i, i = k - 1 := ⟨_, rfl⟩
      have hj : j = (i : Int) := by have := HJ.out; omega
      subst hj
      have hil : i < l.length := by omega
      obtain ⟨b, q, rfl, hbl, hc⟩ := lw_get (hrd.below hb) hil
      have HF1 := Lib.hid (HF.out i hil)
      rw [show i + 1 = k by omega] at HF1
      obtain ⟨y, hy⟩ : ∃ y, y = f k := ⟨_, rfl⟩
      rw [← hy] at HF1 ⊢
      generalize l.getD i 0 = a at *
      obtain ⟨z, hz⟩ : ∃ z, z = y * x % p := ⟨_, rfl⟩
      have HM1 := Lib.hid (fun w => by have := HM.out y x w; rw [← hz] at this; exact this)
      rw [← hz] at HF1
      have HA1 := Lib.hid (fun w => by have := HA.out z a w; rw [← HF1.out] at this; exact this)
      have HI := Lib.hid hi
      obtain ⟨y2, hy2⟩ : ∃ y2, y2 = f i := ⟨_, rfl⟩
      rw [← hy2] at HA1
      have HY2 := Lib.hid hy2
      have gi1 : (0 : Int) ≤ (i : Int) := by omega
      have gi2 : (i : Int) < (l.length : Int) := by omega
      obtain ⟨j2, hj2⟩ : ∃ j2 : Int, j2 = (i : Int) - 1 := ⟨_, rfl⟩
      have gj : (i : Int) - 1 = j2 := hj2.symm
      have gw : IntKind.i64.wrap j2 = j2 := wr_i64 _ (by omega) (by omega)
      have HJ2 := Lib.hid hj2
      clear hz hy hi HF1 hy2 hj2
      have cf := kf.cell
      have lf := kf.lt
      go_upto_region 5 with fail
      refine wpGO_begin (Later) (later_moves) [] [] [0, 1, 2, 3, 4, 5, 6, 7, 8, 9, 10] (by kernel_rfl) (by kernel_rfl) ?_
      refine wpGO_start (later_moves) ?_
      intro Wc hacc
      repeat (first | (refine wpGO_skip (later_moves) rfl rfl rfl rfl (fun _ _ _ h => h) ?_ ; simp only [Act.put, List.setIfInBounds_toArray, List.set_cons_zero, List.set_cons_succ]) | (refine wpGO_light (v := ?_) (later_moves) rfl rfl rfl rfl (fun _ _ _ h => h) ?_ ?_ ; rotate_left ; (· (intro w' hR ; (first | have hcells := later_cellsD ((later_moves).trans _ _ _ hacc hR) | skip) ; go_simp ; try with_reducible rfl)) ; simp only [Act.put, List.setIfInBounds_toArray, List.set_cons_zero, List.set_cons_succ]))
      refine wpGO_call (later_moves) rfl rfl rfl rfl (fun _ _ _ h => h) (fun _ => by go_simp <;> rfl) (fun w' hR => HM1.out _) ?_
      simp only [Act.put, List.setIfInBounds_toArray, List.set_cons_zero, List.set_cons_succ]
      repeat (first | (refine wpGO_skip (later_moves) rfl rfl rfl rfl (fun _ _ _ h => h) ?_ ; simp only [Act.put, List.setIfInBounds_toArray, List.set_cons_zero, List.set_cons_succ]) | (refine wpGO_light (v := ?_) (later_moves) rfl rfl rfl rfl (fun _ _ _ h => h) ?_ ?_ ; rotate_left ; (· (intro w' hR ; (first | have hcells := later_cellsD ((later_moves).trans _ _ _ hacc hR) | skip) ; go_simp ; try with_reducible rfl)) ; simp only [Act.put, List.setIfInBounds_toArray, List.set_cons_zero, List.set_cons_succ]))
      refine wpGO_call (later_moves) rfl rfl rfl rfl (fun _ _ _ h => h) (fun _ => by go_simp <;> rfl) (fun w' hR => HA1.out _) ?_
      simp only [Act.put, List.setIfInBounds_toArray, List.set_cons_zero, List.set_cons_succ]
      repeat (first | (refine wpGO_skip (later_moves) rfl rfl rfl rfl (fun _ _ _ h => h) ?_ ; simp only [Act.put, List.setIfInBounds_toArray, List.set_cons_zero, List.set_cons_succ]) | (refine wpGO_light (v := ?_) (later_moves) rfl rfl rfl rfl (fun _ _ _ h => h) ?_ ?_ ; rotate_left ; (· (intro w' hR ; (first | have hcells := later_cellsD ((later_moves).trans _ _ _ hacc hR) | skip) ; go_simp ; try with_reducible rfl)) ; simp only [Act.put, List.setIfInBounds_toArray, List.set_cons_zero, List.set_cons_succ]))
      refine wpGO_done rfl ?_
      intro wd hRd
      replace hacc := (later_moves).trans _ _ _ hacc hRd
      clear hRd
      have hxd := below_chain (Below.refl wr.heap.size wr).drew hacc
      replace kf := kf.below hxd kf.lt
      replace hb := below_chain hb hxd
      clear hxd hacc cf lf
      go_wp2
      go_roundw
      case rel => exact ⟨i, j2, Lib.hid (by have := HJ2.out; omega), by omega, rfl, by rw [HY2.out], kf, hb⟩
      case measure => have := HJ2.out; simp [intOf]; omega

/-- The length without the zeros at the end. -/
def cutN (f : Nat → Nat) : Nat → Nat
  | 0 => 0
  | k + 1 => if f k = 0 then cutN f k else k + 1
theorem cutN_le (f : Nat → Nat) : ∀ k, cutN f k ≤ k
  | 0 => Nat.le_refl _
  | k + 1 => by
    rw [cutN]
    split
    · have := cutN_le f k; omega
    · exact Nat.le_refl _
theorem cutN_trim (f : Nat → Nat) : ∀ k, (List.range (cutN f k)).map f = trimZ ((List.range k).map f)
  | 0 => rfl
  | k + 1 => by
    rw [cutN, List.range_succ, List.map_append]
    split
    · rename_i h
      rw [List.map_singleton, h, trimZ_snoc0]
      exact cutN_trim f k
    · rename_i h
      rw [List.map_singleton, trimZ_snoc h, List.range_succ, List.map_append]
      rfl
set_option maxRecDepth 100000 in
set_option maxHeartbeats 1000000 in
theorem pShorten_any (g n c : Nat) (f : Nat → Nat) (w : World) (kg : Blk w g 22 (fillC n f)) (hn : n ≤ 100000) (hc : n ≤ c) :
    Calls Tryz.prog 110 #[.slice (some ⟨g, 0, none⟩) n c] w fun e w' => e = .returned (.slice (some ⟨g, 0, none⟩) (cutN f n) c) ∧ Below w.heap.size w w' := by
  obtain ⟨m, hm⟩ : ∃ m, m = cutN f n := ⟨_, rfl⟩
  rw [← hm]
  have HM := Lib.hid hm
  have gn : (n : Int) ≤ 100000 := by omega
  clear hm
  go_enter Tryz.func110, Tryz.ntmps110
  go_wp2_with fail
  go_loopw [3] (fun y wr => ∃ k : Nat, k ≤ n ∧ y = .int .i64 (k : Int) ∧ Hid (cutN f k = m) ∧ Below w.heap.size w wr) (fun y _ => (intOf y).toNat)
  case atStart => exact ⟨n, Nat.le_refl _, rfl, Lib.hid HM.out.symm, Below.refl _ _⟩
  case round =>
    obtain ⟨k, hk, rfl, HK, hb⟩ := hrel
    rcases Nat.eq_zero_or_pos k with h0 | h0
    · subst h0
      have hm0 : m = 0 := by rw [← HK.out]; rfl
      subst hm0
      go_wp2
      go_ret
      exact ⟨rfl, hb⟩
    · obtain ⟨j, hj⟩ : ∃ j, j = k - 1 := ⟨_, rfl⟩
      have g1 : (0 : Int) < (k : Int) := by omega
      have g2 : (k : Int) - 1 = (j : Int) := by omega
      have g3 : IntKind.i64.wrap (j : Int) = (j : Int) := wr_i64 _ (by omega) (by omega)
      have g4 : (j : Int) < (n : Int) := by omega
      have g5 : (0 : Int) ≤ (j : Int) := by omega
      have hjk : k = j + 1 := by omega
      have kg2 := kg.below hb kg.lt
      have cg := kg2.cell j
      rw [fill_get _ (by omega)] at cg
      have hm2 : cutN f k = if f j = 0 then cutN f j else j + 1 := by rw [hjk]; rfl
      have HM2 := Lib.hid hm2
      have HJK := Lib.hid hjk
      have g6 : k ≤ c := by omega
      have g7 : j ≤ n := by omega
      have g8 : (k : Int) ≤ (c : Int) := by omega
      have g9 : k ≤ n := hk
      obtain ⟨x, hx⟩ : ∃ x, x = f j := ⟨_, rfl⟩
      rw [← hx] at cg
      have HX := Lib.hid hx
      clear hj hm2 hjk hx kg2
      by_cases hx0 : x = 0
      · subst hx0
        have HN := Lib.hid (show cutN f j = m by rw [← HK.out, HM2.out, if_pos HX.out.symm])
        go_wp2
        go_roundw
        case rel => exact ⟨j, g7, rfl, HN, hb⟩
        case measure => have := HJK.out; simp [intOf]; omega
      · have d0 : ((x : Int) == 0) = false := by rw [beq_eq_false_iff_ne]; omega
        have hmk : m = k := by rw [← HK.out, HM2.out, if_neg (by rw [← HX.out]; exact hx0), HJK.out]
        subst hmk
        go_wp2
        go_ret
        exact ⟨rfl, hb⟩

end Go.Proofs.YtefnagiffllhbaaGreat
