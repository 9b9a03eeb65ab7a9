/-
  MaskColumns, for every input: the law returns true and leaves its arguments as they were. No condition.
-/
import Derived.Test.YtefnagiffllhbaaGreatJQ28
import Derived.Test.YtefnagiffllhbaaGreatJQ7
import Derived.Test.YtefnagiffllhbaaGreatJQ20
import Derived.Test.YtefnagiffllhbaaGreatJQ3
import Derived.Test.YtefnagiffllhbaaGreatJQ31
import Derived.Test.YtefnagiffllhbaaGreatJQ21
import Derived.Test.YtefnagiffllhbaaGreatJPol
import Derived.Test.YtefnagiffllhbaaGreatRows
import Derived.Test.YtefnagiffllhbaaGreatJQ1

/- PoN -/
namespace Go.Proofs.YtefnagiffllhbaaGreat
open Go.RowKit

set_option maxRecDepth 100000 in
set_option maxHeartbeats 1000000 in
theorem rPad_own (A : Option Addr) (n c m : Nat) (l : List Nat) (w : World) (hl : RWd w [.slice A n c] l) (hn : n ≤ 100000) (hm : m ≤ 100000) :
    Calls Tryz.prog 41 #[.slice A n c, .int .i64 (m : Int)] w fun e w' => ∃ v, e = .returned v ∧ w'.ownsRow w.heap.size 22 1 v (padP l m).length (U64 (padP l m)) ∧ Below w.heap.size w w' := by
  obtain ⟨rfl, h1, h2, hlt, hrd⟩ := lw_at hl
  have hal := (Below.refl w.heap.size w).alloc (Nat.le_refl _) (.cells #[] 22)
  have HS := Lib.hid (show ∀ k, l ++ List.replicate k 0 ++ [0] = l ++ List.replicate (k + 1) 0 from fun k => by rw [List.append_assoc, List.replicate_succ'])
  have HP := Lib.hid (show padP l m = l ++ List.replicate (m - l.length) 0 from rfl)
  rw [HP.out]
  obtain ⟨f, hf⟩ : ∃ f, f = fun k => l ++ List.replicate k 0 := ⟨_, rfl⟩
  have H0 := Lib.hid (show f 0 = l by rw [hf]; simp)
  have HF := Lib.hid (show ∀ k, f k ++ [0] = f (k + 1) from fun k => by rw [hf]; exact HS.out k)
  rw [show l ++ List.replicate (m - l.length) 0 = f (m - l.length) by rw [hf]]
  clear HS HP hf hlt h1 h2 hl
  go_enter Tryz.func41, Tryz.ntmps41
  go_wp2_with (at_builtin; refine wpl_append rfl _ _ rfl el_w rfl (own_empty w 22 (Nat.le_refl _)) rfl (hrd.alloc _) (one_U64 l) (by omega) (by simp) ?_)
  intro v1 w1 hown hgrow hblk
  have hB := lw_grow (own_empty w 22 (Nat.le_refl _)) hgrow (by simp)
  replace hB := hal.trans hB
  obtain ⟨t, ht⟩ : ∃ t, t = l.length := ⟨_, rfl⟩
  have hown1 : w1.ownsRow w.heap.size 22 1 v1 t (U64 (f 0)) := by
    rw [H0.out, ht]; simpa using hown
  have HT := Lib.hid ht
  clear hgrow hblk hown hal ht hrd
  go_wp2_with fail
  go_loopw [5] (fun v wr => ∃ k s : Nat, Hid (s = t + k ∧ (k = 0 ∨ s ≤ m)) ∧ s ≤ 200000 ∧ wr.ownsRow w.heap.size 22 1 v s (U64 (f k)) ∧ Below w.heap.size w wr) (fun v _ => match v with | .slice _ n _ => m - n | _ => 0)
  case atStart => exact ⟨0, t, Lib.hid ⟨rfl, .inl rfl⟩, by have := HT.out; omega, hown1, hB⟩
  case round =>
    clear hown1 hB
    obtain ⟨k, s, HK, hs, hown, hb⟩ := hrel
    obtain ⟨A1, c1, rfl, -⟩ := own_form hown
    by_cases hlt : s < m
    · have g1 : (s : Int) < (m : Int) := by omega
      have HF1 := Lib.hid (HF.out k)
      go_wp2_with (at_builtin; refine wpl_append rfl _ _ rfl el_w rfl (hown.alloc _) rfl (rd_one _ _ _) (one_U64 [0]) (by omega) (by simp; have := hb.size; omega) ?_)
      intro v' wn hown' hgrow hblk
      have hal := (Below.refl wr.heap.size wr).alloc (Nat.le_refl _) (.cells #[.int .u64 (0 : Int)] 22)
      have hB := lw_grow (hown.alloc _) hgrow (by simp; have := hb.size; omega)
      replace hb := (below_on hb hal hb.size).trans hB
      replace hown : wn.ownsRow w.heap.size 22 1 v' (s + 1) (U64 (f (k + 1))) := lw_app (b := [0]) hown' HF1.out
      clear hown' hgrow hblk hal hB
      obtain ⟨A2, c2, rfl, -⟩ := own_form hown
      go_wp2
      go_roundw
      case rel => exact ⟨k + 1, s + 1, Lib.hid (by have := HK.out; omega), by omega, hown, hb⟩
      case measure => simp; omega
    · have g1 : ¬ ((s : Int) < (m : Int)) := by omega
      have HE := Lib.hid (show f k = f (m - l.length) by
        have h := HK.out
        have h2 := HT.out
        rcases h.2 with h3 | h3
        · rw [h3, show m - l.length = 0 by omega]
        · rw [show k = m - l.length by omega])
      rw [HE.out] at hown
      have HSL := Lib.hid (show (f (m - l.length)).length = s by
        have := hown.1
        simpa [U64] using this)
      go_wp2
      go_ret
      exact ⟨_, rfl, by rw [HSL.out]; exact hown, hb⟩
set_option maxRecDepth 100000 in
set_option maxHeartbeats 1000000 in
theorem rRow25_own (L : LayR) (A B : Option Addr) (n c m d : Nat) (msg masks : List Nat) (w : World) (hL : LayOk L) (hl : RWd w [.slice A n c] msg) (hk : RWd w [.slice B m d] masks) (hn : n = L.block) (hm : m ≤ 30000) :
    Calls Tryz.prog 15 #[.agg (layCs L), .slice A n c, .slice B m d] w fun e w' => ∃ v, e = .returned v ∧ w'.ownsRow w.heap.size 22 1 v (rowR L msg masks).length (U64 (rowR L msg masks)) ∧ Below w.heap.size w w' := by
  obtain ⟨hp1, hp2⟩ := okP_lt hL.p
  have hb2 := hL.b2
  have hk1 : L.k ≤ 400 := by have := hL.k; have := hL.q2; omega
  obtain ⟨hlen, -⟩ := layLen hL
  have hml := (lw_at hk).1
  have hnl := (lw_at hl).1
  subst hn
  have HI := Lib.hid (fun w' (hb : Below w.heap.size w w') => rInterpolate_any L.p 1 L.block A c msg w' hL.p (kept_RWd _ _ _ _ hb hl) hlen (by rw [Nat.mod_eq_of_lt (by omega)]; decide))
  have HZ := Lib.hid (fun w => rZero_any L w hL)
  have HM := Lib.hid (fun A n c w' (hb : Below w.heap.size w w') ha hn => rMulP_any L.p A B n c m d (zeroP L.p L.block) masks w' hL.p ha (kept_RWd _ _ _ _ hb hk) hn (by omega))
  have HA := Lib.hid (fun A B n c m d a b w ha hb hn hm => rAddP_any L.p A B n c m d a b w hL.p ha hb hn hm)
  have HP := Lib.hid (fun A n c l w hl hn => rPad_own A n c L.k l w hl hn (by omega))
  have HIL := Lib.hid (show ∀ x ∈ (List.range L.block).map (intR L.p msg 1), x < 18446744073709551616 from fun x hx => by
    obtain ⟨i, -, rfl⟩ := List.mem_map.1 hx
    exact Nat.lt_trans (intR_lt (by omega) _ _ _) hp2)
  have HR := Lib.hid (show rowR L msg masks = padP (addP L.p ((List.range L.block).map (intR L.p msg 1)) (mulP L.p (zeroP L.p L.block) masks)) L.k by rw [rowR, ← hnl])
  rw [HR.out]
  have h1 := Lib.hid (show (mulP L.p (zeroP L.p L.block) masks).length ≤ 40000 by have := mulP_len L.p (zeroP L.p L.block) masks; rw [zeroP_len] at this; omega)
  have h2 := Lib.hid (show (addP L.p ((List.range L.block).map (intR L.p msg 1)) (mulP L.p (zeroP L.p L.block) masks)).length ≤ 40000 by have := addP_len L.p ((List.range L.block).map (intR L.p msg 1)) (mulP L.p (zeroP L.p L.block) masks); rw [List.length_map, List.length_range] at this; have := h1.out; omega)
  have h3 := Lib.hid (zeroP_len L.p L.block)
  have h4 : L.block ≤ 256 := hb2
  generalize mulP L.p (zeroP L.p L.block) masks = M at *
  generalize (List.range L.block).map (intR L.p msg 1) = I at *
  clear HR hL hl hk hlen hml hnl hp1 hp2 hk1 hb2 hm
  unfold layCs at *
  have kl := Blk.new w 34 #[.int .u64 (L.p : Int), .int .i64 (L.block : Int), .int .i64 (L.queries : Int), .int .i64 (L.k : Int), .int .i64 (L.n : Int), .int .i64 (L.secret : Int), .int .i64 (L.rows : Int), .int .i64 (L.a : Int), .int .i64 (L.b : Int), .int .i64 (L.b : Int), .int .i64 (L.b : Int)]
  have hb0 : Below w.heap.size w (w.alloc (.cells #[.int .u64 (L.p : Int), .int .i64 (L.block : Int), .int .i64 (L.queries : Int), .int .i64 (L.k : Int), .int .i64 (L.n : Int), .int .i64 (L.secret : Int), .int .i64 (L.rows : Int), .int .i64 (L.a : Int), .int .i64 (L.b : Int), .int .i64 (L.b : Int), .int .i64 (L.b : Int)] 34)) := (Below.refl _ _).alloc (Nat.le_refl _) _
  go_enter Tryz.func15, Tryz.ntmps15
  go_wp2_with fail
  generalize w.alloc _ = w1 at kl hb0 ⊢
  refine (HI.out _ hb0).mono ?_
  rintro e w2 ⟨v1, rfl, hown, hbx⟩
  replace kl := kl.below hbx kl.lt
  replace hb0 := below_chain hb0 hbx
  clear hbx
  obtain ⟨A1, c1, rfl, -⟩ := own_form hown
  have hI := lw_own hown HIL.out
  clear hown HIL HI
  have cl := kl.cell
  have ll := kl.lt
  go_upto_region 2 with fail
  refine wpO_begin (Later) [6, 8, 9, 12] [0, 1, 2, 3, 4, 5, 7, 10, 11, 6, 8, 9, 12, 13] (by kernel_rfl) (by kernel_rfl) ?_
  refine wpO_startK (later_moves) ?_
  intro Wc HWc hacc
  have hbW : Below w2.heap.size w2 Wc := by rw [HWc.out]; exact (Below.refl _ _).drew
  replace hb0 := below_chain hb0 hbW
  replace hI := kept_RWd _ _ _ _ hbW hI
  repeat (first | (refine wpO_skip (later_moves) rfl rfl (fun _ _ _ h => h) ?_ ; simp only [Act.put, List.setIfInBounds_toArray, List.set_cons_zero, List.set_cons_succ]) | (refine wpO_light (v := ?_) (later_moves) rfl rfl (fun _ _ _ h => h) ?_ ?_ ; rotate_left ; (· (intro w' hR ; (first | have hcells := later_cellsD ((later_moves).trans _ _ _ hacc hR) | skip) ; go_simp ; try with_reducible rfl)) ; simp only [Act.put, List.setIfInBounds_toArray, List.set_cons_zero, List.set_cons_succ]))
  refine wpO_call (later_moves) rfl rfl rfl (fun _ => by go_simp <;> rfl) ((HZ.out _).mono ?_)
  rintro e w3 ⟨v3, rfl, hZ, hb3⟩
  refine ⟨_, rfl, hb3, ?_⟩
  replace hacc := (later_moves).trans _ _ _ hacc (hb3)
  simp only [Act.put, List.setIfInBounds_toArray, List.set_cons_zero, List.set_cons_succ]
  replace hb0 := below_chain hb0 hb3
  replace hI := kept_RWd _ _ _ _ hb3 hI
  obtain ⟨A3, c3, rfl⟩ := rwd_form hZ
  repeat (first | (refine wpO_skip (later_moves) rfl rfl (fun _ _ _ h => h) ?_ ; simp only [Act.put, List.setIfInBounds_toArray, List.set_cons_zero, List.set_cons_succ]) | (refine wpO_light (v := ?_) (later_moves) rfl rfl (fun _ _ _ h => h) ?_ ?_ ; rotate_left ; (· (intro w' hR ; (first | have hcells := later_cellsD ((later_moves).trans _ _ _ hacc hR) | skip) ; go_simp ; try with_reducible rfl)) ; simp only [Act.put, List.setIfInBounds_toArray, List.set_cons_zero, List.set_cons_succ]))
  refine wpO_call (later_moves) rfl rfl rfl (fun _ => by go_simp <;> rfl) ((HM.out _ _ _ _ hb0 hZ (by rw [h3.out]; omega)).mono ?_)
  rintro e w4 ⟨v4, rfl, hM, hb4⟩
  refine ⟨_, rfl, hb4, ?_⟩
  replace hacc := (later_moves).trans _ _ _ hacc (hb4)
  simp only [Act.put, List.setIfInBounds_toArray, List.set_cons_zero, List.set_cons_succ]
  replace hb0 := below_chain hb0 hb4
  replace hI := kept_RWd _ _ _ _ hb4 hI
  obtain ⟨A4, c4, rfl⟩ := rwd_form hM
  repeat (first | (refine wpO_skip (later_moves) rfl rfl (fun _ _ _ h => h) ?_ ; simp only [Act.put, List.setIfInBounds_toArray, List.set_cons_zero, List.set_cons_succ]) | (refine wpO_light (v := ?_) (later_moves) rfl rfl (fun _ _ _ h => h) ?_ ?_ ; rotate_left ; (· (intro w' hR ; (first | have hcells := later_cellsD ((later_moves).trans _ _ _ hacc hR) | skip) ; go_simp ; try with_reducible rfl)) ; simp only [Act.put, List.setIfInBounds_toArray, List.set_cons_zero, List.set_cons_succ]))
  refine wpO_call (later_moves) rfl rfl rfl (fun _ => by go_simp <;> rfl) ((HA.out _ _ _ _ _ _ _ _ _ hI hM (by omega) (by have := h1.out; omega)).mono ?_)
  rintro e w5 ⟨v5, rfl, hA, hb5⟩
  refine ⟨_, rfl, hb5, ?_⟩
  replace hacc := (later_moves).trans _ _ _ hacc (hb5)
  simp only [Act.put, List.setIfInBounds_toArray, List.set_cons_zero, List.set_cons_succ]
  replace hb0 := below_chain hb0 hb5
  obtain ⟨A5, c5, rfl⟩ := rwd_form hA
  repeat (first | (refine wpO_skip (later_moves) rfl rfl (fun _ _ _ h => h) ?_ ; simp only [Act.put, List.setIfInBounds_toArray, List.set_cons_zero, List.set_cons_succ]) | (refine wpO_light (v := ?_) (later_moves) rfl rfl (fun _ _ _ h => h) ?_ ?_ ; rotate_left ; (· (intro w' hR ; (first | have hcells := later_cellsD ((later_moves).trans _ _ _ hacc hR) | skip) ; go_simp ; try with_reducible rfl)) ; simp only [Act.put, List.setIfInBounds_toArray, List.set_cons_zero, List.set_cons_succ]))
  have hs5 := hb0.size
  refine wpO_call (later_moves) rfl rfl rfl (fun _ => by go_simp <;> rfl) ((HP.out _ _ _ _ _ hA (by have := h2.out; omega)).mono ?_)
  rintro e w6 ⟨v6, rfl, hP, hb6⟩
  refine ⟨_, rfl, hb6, ?_⟩
  replace hacc := (later_moves).trans _ _ _ hacc (hb6)
  simp only [Act.put, List.setIfInBounds_toArray, List.set_cons_zero, List.set_cons_succ]
  replace hb0 := below_chain hb0 hb6
  repeat (first | (refine wpO_skip (later_moves) rfl rfl (fun _ _ _ h => h) ?_ ; simp only [Act.put, List.setIfInBounds_toArray, List.set_cons_zero, List.set_cons_succ]) | (refine wpO_light (v := ?_) (later_moves) rfl rfl (fun _ _ _ h => h) ?_ ?_ ; rotate_left ; (· (intro w' hR ; (first | have hcells := later_cellsD ((later_moves).trans _ _ _ hacc hR) | skip) ; go_simp ; try with_reducible rfl)) ; simp only [Act.put, List.setIfInBounds_toArray, List.set_cons_zero, List.set_cons_succ]))
  refine wpO_done ?_
  go_wp2
  go_ret
  exact ⟨_, rfl, own_base hP hs5, hb0⟩

set_option maxRecDepth 100000 in
set_option maxHeartbeats 1000000 in
theorem rQuad_own (L : LayR) (v0 v1 v2 v4 : Value) (B : Option Addr) (m d : Nat) (q : List Nat) (w : World) (hL : LayOk L) (g0 : slc v0) (g1 : slc v1) (g2 : slc v2) (g4 : slc v4) (hk : RWd w [.slice B m d] q) (hm : m ≤ 30000) :
    Calls Tryz.prog 23 #[.agg (layCs L), .agg #[v0, v1, v2, .slice B m d, v4]] w fun e w' => ∃ v, e = .returned v ∧ w'.ownsRow w.heap.size 22 1 v (quadR L q).length (U64 (quadR L q)) ∧ Below w.heap.size w w' := by
  obtain ⟨hp1, hp2⟩ := okP_lt hL.p
  have hb2 := hL.b2
  have hk1 : L.k ≤ 400 := by have := hL.k; have := hL.q2; omega
  have hk2 : 2 ≤ L.k := by have := hL.k; have := hL.b1; omega
  have hml := (lw_at hk).1
  obtain ⟨A0, n0, c0, rfl⟩ := g0
  obtain ⟨A1, n1, c1, rfl⟩ := g1
  obtain ⟨A2, n2, c2, rfl⟩ := g2
  obtain ⟨A4, n4, c4, rfl⟩ := g4
  obtain ⟨t, ht⟩ : ∃ t, t = 2 * L.k - 1 := ⟨_, rfl⟩
  obtain ⟨u, hu⟩ : ∃ u, u = 2 * L.k := ⟨_, rfl⟩
  have HZ := Lib.hid (fun w => rZero_any L w hL)
  have HM := Lib.hid (fun A n c w' (hb : Below w.heap.size w w') ha hn => rMulP_any L.p A B n c m d (zeroP L.p L.block) q w' hL.p ha (kept_RWd _ _ _ _ hb hk) hn (by omega))
  have HP := Lib.hid (fun A n c l w hl hn => rPad_own A n c t l w hl hn (by omega))
  have HR := Lib.hid (show quadR L q = padP (mulP L.p (zeroP L.p L.block) q) t by rw [quadR, ht])
  rw [HR.out]
  have h1 := Lib.hid (show (mulP L.p (zeroP L.p L.block) q).length ≤ 40000 by have := mulP_len L.p (zeroP L.p L.block) q; rw [zeroP_len] at this; omega)
  have h3 := Lib.hid (zeroP_len L.p L.block)
  have h4 : L.block ≤ 256 := hb2
  have e1 : (2 : Int) * (L.k : Int) = (u : Int) := by omega
  have e2 : IntKind.i64.wrap (u : Int) = (u : Int) := wr_i64 _ (by omega) (by omega)
  have e3 : (u : Int) - 1 = (t : Int) := by omega
  have e4 : IntKind.i64.wrap (t : Int) = (t : Int) := wr_i64 _ (by omega) (by omega)
  generalize mulP L.p (zeroP L.p L.block) q = M at *
  clear HR hL hk hml hp1 hp2 hk1 hk2 hb2 hm ht hu
  unfold layCs at *
  obtain ⟨kl, kc, hb0, -⟩ := boxes2 w 34 41 #[.int .u64 (L.p : Int), .int .i64 (L.block : Int), .int .i64 (L.queries : Int), .int .i64 (L.k : Int), .int .i64 (L.n : Int), .int .i64 (L.secret : Int), .int .i64 (L.rows : Int), .int .i64 (L.a : Int), .int .i64 (L.b : Int), .int .i64 (L.b : Int), .int .i64 (L.b : Int)] #[.slice A0 n0 c0, .slice A1 n1 c1, .slice A2 n2 c2, .slice B m d, .slice A4 n4 c4]
  go_enter Tryz.func23, Tryz.ntmps23
  go_upto_region 1 with fail
  generalize (w.alloc _).alloc _ = w2 at kl kc hb0 ⊢
  have cl := kl.cell
  have ll := kl.lt
  have cc := kc.cell
  have lc := kc.lt
  refine wpO_begin (Later) [3, 6, 11] [0, 1, 2, 4, 5, 7, 8, 9, 10, 3, 6, 11, 12] (by kernel_rfl) (by kernel_rfl) ?_
  refine wpO_startK (later_moves) ?_
  intro Wc HWc hacc
  have hbW : Below w2.heap.size w2 Wc := by rw [HWc.out]; exact (Below.refl _ _).drew
  replace hb0 := below_chain hb0 hbW
  repeat (first | (refine wpO_skip (later_moves) rfl rfl (fun _ _ _ h => h) ?_ ; simp only [Act.put, List.setIfInBounds_toArray, List.set_cons_zero, List.set_cons_succ]) | (refine wpO_light (v := ?_) (later_moves) rfl rfl (fun _ _ _ h => h) ?_ ?_ ; rotate_left ; (· (intro w' hR ; (first | have hcells := later_cellsD ((later_moves).trans _ _ _ hacc hR) | skip) ; go_simp ; try with_reducible rfl)) ; simp only [Act.put, List.setIfInBounds_toArray, List.set_cons_zero, List.set_cons_succ]))
  refine wpO_call (later_moves) rfl rfl rfl (fun _ => by go_simp <;> rfl) ((HZ.out _).mono ?_)
  rintro e w3 ⟨v3, rfl, hZ, hb3⟩
  refine ⟨_, rfl, hb3, ?_⟩
  replace hacc := (later_moves).trans _ _ _ hacc (hb3)
  simp only [Act.put, List.setIfInBounds_toArray, List.set_cons_zero, List.set_cons_succ]
  replace hb0 := below_chain hb0 hb3
  obtain ⟨A3, c3, rfl⟩ := rwd_form hZ
  repeat (first | (refine wpO_skip (later_moves) rfl rfl (fun _ _ _ h => h) ?_ ; simp only [Act.put, List.setIfInBounds_toArray, List.set_cons_zero, List.set_cons_succ]) | (refine wpO_light (v := ?_) (later_moves) rfl rfl (fun _ _ _ h => h) ?_ ?_ ; rotate_left ; (· (intro w' hR ; (first | have hcells := later_cellsD ((later_moves).trans _ _ _ hacc hR) | skip) ; go_simp ; try with_reducible rfl)) ; simp only [Act.put, List.setIfInBounds_toArray, List.set_cons_zero, List.set_cons_succ]))
  refine wpO_call (later_moves) rfl rfl rfl (fun _ => by go_simp <;> rfl) ((HM.out _ _ _ _ hb0 hZ (by rw [h3.out]; omega)).mono ?_)
  rintro e w4 ⟨v4, rfl, hM, hb4⟩
  refine ⟨_, rfl, hb4, ?_⟩
  replace hacc := (later_moves).trans _ _ _ hacc (hb4)
  simp only [Act.put, List.setIfInBounds_toArray, List.set_cons_zero, List.set_cons_succ]
  replace hb0 := below_chain hb0 hb4
  obtain ⟨A5, c5, rfl⟩ := rwd_form hM
  repeat (first | (refine wpO_skip (later_moves) rfl rfl (fun _ _ _ h => h) ?_ ; simp only [Act.put, List.setIfInBounds_toArray, List.set_cons_zero, List.set_cons_succ]) | (refine wpO_light (v := ?_) (later_moves) rfl rfl (fun _ _ _ h => h) ?_ ?_ ; rotate_left ; (· (intro w' hR ; (first | have hcells := later_cellsD ((later_moves).trans _ _ _ hacc hR) | skip) ; go_simp ; try with_reducible rfl)) ; simp only [Act.put, List.setIfInBounds_toArray, List.set_cons_zero, List.set_cons_succ]))
  have hs5 := hb0.size
  refine wpO_call (later_moves) rfl rfl rfl (fun _ => by go_simp <;> rfl) ((HP.out _ _ _ _ _ hM (by have := h1.out; omega)).mono ?_)
  rintro e w6 ⟨v6, rfl, hP, hb6⟩
  refine ⟨_, rfl, hb6, ?_⟩
  replace hacc := (later_moves).trans _ _ _ hacc (hb6)
  simp only [Act.put, List.setIfInBounds_toArray, List.set_cons_zero, List.set_cons_succ]
  replace hb0 := below_chain hb0 hb6
  repeat (first | (refine wpO_skip (later_moves) rfl rfl (fun _ _ _ h => h) ?_ ; simp only [Act.put, List.setIfInBounds_toArray, List.set_cons_zero, List.set_cons_succ]) | (refine wpO_light (v := ?_) (later_moves) rfl rfl (fun _ _ _ h => h) ?_ ?_ ; rotate_left ; (· (intro w' hR ; (first | have hcells := later_cellsD ((later_moves).trans _ _ _ hacc hR) | skip) ; go_simp ; try with_reducible rfl)) ; simp only [Act.put, List.setIfInBounds_toArray, List.set_cons_zero, List.set_cons_succ]))
  refine wpO_done ?_
  go_wp2
  go_ret
  exact ⟨_, rfl, own_base hP hs5, hb0⟩

theorem padP_lt {l : List Nat} {B n : Nat} (hB : 0 < B) (h : ∀ x ∈ l, x < B) : ∀ x ∈ padP l n, x < B := fun x hx => by
  rcases List.mem_append.1 hx with h' | h'
  · exact h x h'
  · rw [(List.mem_replicate.1 h').2]; exact hB
theorem mulP_lt {p : Nat} (hp : 0 < p) {a b : List Nat} {x : Nat} (h : x ∈ mulP p a b) : x < p := by
  unfold mulP at h
  cases e : a.length with
  | zero => rw [e] at h; cases h
  | succ k => rw [e, mulK] at h; exact trimP_lt hp h
theorem rwd_agree {w u : World} {v : Value} {l : List Nat} (h : RWd w [v] l) (ha : ∀ b, b < w.heap.size → u.heap[b]? = w.heap[b]?) : RWd u [v] l := by
  obtain ⟨A, n, c, he, h1, h2, h3, h4⟩ := h
  refine ⟨A, n, c, he, h1, h2, ⟨h3.1, fun h0 => ?_⟩, h4⟩
  obtain ⟨ad, e, hc⟩ := h3.2 h0
  refine ⟨ad, e, fun j x hj => ?_⟩
  have hx := hc j x hj
  have hb := World.block_lt_of_cell? _ _ hx
  rw [← hx]
  unfold World.cell?
  rw [ha _ hb]
/-- A row that was there before stays apart from what is new. -/
theorem rwx_old {w0 w : World} {gb : Option Nat} {v : Value} {l : List Nat} (h : RWd w0 [v] l) (hb : Below w0.heap.size w0 w) (hg : ∀ q, gb = some q → w0.heap.size ≤ q) : RWx 0 gb w v l := fun u hu =>
  rwd_agree h fun b hlt => (hu b (Nat.zero_le _) (Nat.lt_of_lt_of_le hlt hb.size) fun e => by have := hg b e.symm; omega).trans (hb.block b hlt)
end Go.Proofs.YtefnagiffllhbaaGreat

/- PoO -/
namespace Go.Proofs.YtefnagiffllhbaaGreat
open Go.RowKit

/-- The document's polynomials of the rows, and of the masks. -/
def rowsF (L : LayR) (m r : List (List Nat)) (k : Nat) : List Nat := rowR L (m.getD k []) (r.getD k [])
def polysR (L : LayR) (m r : List (List Nat)) (co li qu : List Nat) : List (List Nat) := (List.range m.length).map (rowsF L m r) ++ [co, mlinP L li, quadR L qu]
theorem polysR_len (L : LayR) (m r : List (List Nat)) (co li qu : List Nat) : (polysR L m r co li qu).length = m.length + 3 := by simp [polysR]
def colE (L : LayR) (ps : List (List Nat)) (j i : Nat) : Nat := evalP L.p (ps.getD i []) (domR L.p (rowOf L.p).1 L.n j)
/-- ref25.Columns. -/
def colsR (L : LayR) (ps : List (List Nat)) : List (List Nat) := (List.range L.n).map fun j => (List.range ps.length).map (colE L ps j)
theorem rangeF_next (f : Nat → List Nat) (k : Nat) : (List.range k).map f ++ [f k] = (List.range (k + 1)).map f := by simp [List.range_succ]

set_option maxRecDepth 100000 in
set_option maxHeartbeats 2000000 in
theorem rColumns_any (L : LayR) (D0 D1 D2 D3 D4 AM : Option Addr) (n0 n1 n2 n3 n4 nM k0 k1 k2 k3 k4 cM : Nat) (m r : List (List Nat)) (co li qu : List Nat) (w : World) (hL : LayOk L)
    (hm : RRows w [.slice AM nM cM] m) (hr : RRows w [.slice D0 n0 k0] r) (hc : RWd w [.slice D1 n1 k1] co) (hl : RWd w [.slice D2 n2 k2] li) (hq : RWd w [.slice D3 n3 k3] qu)
    (hlen : m.length = r.length) (hml : ∀ x ∈ m, x.length = L.block) (hrl : ∀ x ∈ r, x.length ≤ 2000) (hT : m.length ≤ 400000) (h2 : li.length ≤ 2000) (h3 : qu.length ≤ 2000) :
    Calls Tryz.prog 28 #[.agg (layCs L), .slice AM nM cM, .agg #[.slice D0 n0 k0, .slice D1 n1 k1, .slice D2 n2 k2, .slice D3 n3 k3, .slice D4 n4 k4]] w fun e w' => ∃ v, e = .returned v ∧ RRows w' [v] (colsR L (polysR L m r co li qu)) ∧ Below w.heap.size w w' := by
  have hpp := okP_lt hL.p
  have hn2 := hL.n2
  obtain ⟨hmn, -, -, hMd⟩ := rows_at hm
  obtain ⟨hrn, -, -, hRd⟩ := rows_at hr
  subst hmn
  subst hrn
  have sl := fun A n c => (⟨A, n, c, rfl⟩ : slc (.slice A n c))
  have e1 := (lw_at hc).1
  have e2 := (lw_at hl).1
  have e3 := (lw_at hq).1
  subst e1 e2 e3
  have HEv := Lib.hid (fun A n c x l w hl => rEval_any L.p A n c x l w hL.p hl)
  have HRow := Lib.hid (fun A B n c m d msg masks w hl hk hn hm => rRow25_own L A B n c m d msg masks w hL hl hk hn hm)
  have HCo := Lib.hid (fun w => rCode_any L (.slice D0 r.length k0) (.slice D1 co.length k1) (.slice D2 li.length k2) (.slice D3 qu.length k3) (.slice D4 n4 k4) w (sl _ _ _) (sl _ _ _) (sl _ _ _) (sl _ _ _) (sl _ _ _))
  have HLi := Lib.hid (fun w' (hb : Below w.heap.size w w') => rLinear25_any L (.slice D0 r.length k0) (.slice D1 co.length k1) (.slice D3 qu.length k3) (.slice D4 n4 k4) D2 li.length k2 li w' hL (sl _ _ _) (sl _ _ _) (sl _ _ _) (sl _ _ _) (kept_RWd _ _ _ _ hb hl) (by omega))
  have HQu := Lib.hid (fun w' (hb : Below w.heap.size w w') => rQuad_own L (.slice D0 r.length k0) (.slice D1 co.length k1) (.slice D2 li.length k2) (.slice D4 n4 k4) D3 qu.length k3 qu w' hL (sl _ _ _) (sl _ _ _) (sl _ _ _) (sl _ _ _) (kept_RWd _ _ _ _ hb hq) (by omega))
  have HPt := Lib.hid (fun w => rPoints_any L w hL)
  have HLT := Lib.hid (show ∀ x ∈ mlinP L li, x < 18446744073709551616 from fun x hx => by
    rcases List.mem_cons.1 hx with h | h
    · rw [h]; exact Nat.lt_trans (linA_lt (by omega) _ _) hpp.2
    · exact rwd_lt hl x h)
  have HQT := Lib.hid (show ∀ x ∈ quadR L qu, x < 18446744073709551616 from padP_lt (by omega) fun x hx => Nat.lt_trans (mulP_lt (by omega) hx) hpp.2)
  have HRT := Lib.hid (show ∀ a b, ∀ x ∈ rowR L a b, x < 18446744073709551616 from fun a b => padP_lt (by omega) fun x hx => Nat.lt_trans (trimP_lt (by omega) hx) hpp.2)
  have HCE := Lib.hid (show ∀ ps j i, colE L ps j i < 18446744073709551616 from fun ps j i => Nat.lt_trans (evalP_lt (by omega) _ _) hpp.2)
  have HLEN := Lib.hid hlen
  have HML := Lib.hid hml
  have HRL := Lib.hid hrl
  obtain ⟨ps, hps⟩ : ∃ ps, ps = polysR L m r co li qu := ⟨_, rfl⟩
  have HPS := Lib.hid (show (List.range m.length).map (rowsF L m r) ++ [co, mlinP L li, quadR L qu] = ps from hps.symm)
  have HPL := Lib.hid (show ps.length = m.length + 3 by rw [hps, polysR_len])
  rw [← hps]
  have HRF := Lib.hid (rangeF_next (rowsF L m r))
  have HRG := Lib.hid (show ∀ i (h1 : i < m.length) (h2 : i < r.length), rowR L m[i] r[i] = rowsF L m r i from fun i h1 h2 => by
    unfold rowsF
    rw [List.getD_eq_getElem?_getD, List.getD_eq_getElem?_getD, List.getElem?_eq_getElem h1, List.getElem?_eq_getElem h2]
    rfl)
  obtain ⟨rf, hrf⟩ : ∃ rf, rf = rowsF L m r := ⟨_, rfl⟩
  rw [← hrf] at HPS HRF HRG
  have hb2 := hL.b2
  clear hL hlen hml hrl hpp hps hrf hm hr
  unfold layCs at *
  obtain ⟨kl, kc, hb0, hsz⟩ := boxes2 w 34 41 #[.int .u64 (L.p : Int), .int .i64 (L.block : Int), .int .i64 (L.queries : Int), .int .i64 (L.k : Int), .int .i64 (L.n : Int), .int .i64 (L.secret : Int), .int .i64 (L.rows : Int), .int .i64 (L.a : Int), .int .i64 (L.b : Int), .int .i64 (L.b : Int), .int .i64 (L.b : Int)] #[.slice D0 r.length k0, .slice D1 co.length k1, .slice D2 li.length k2, .slice D3 qu.length k3, .slice D4 n4 k4]
  go_enter Tryz.func28, Tryz.ntmps28
  go_upto_region 1 with fail
  generalize (w.alloc _).alloc _ = w1 at kl kc hb0 hsz ⊢
  obtain ⟨N, hN⟩ : ∃ N, N = w1.heap.size := ⟨_, rfl⟩
  have x1 : w.heap.size < N := by omega
  have x2 : w.heap.size + 1 < N := by omega
  have x3 : w.heap.size ≠ N := by omega
  have x4 : w.heap.size + 1 ≠ N := by omega
  have hown := own_empty w1 28 (base := N) (by omega)
  have hal := (Below.refl w1.heap.size w1).alloc (Nat.le_refl _) (.cells #[] 28)
  have hNw : N ≤ (w1.alloc (.cells #[] 28)).heap.size := by have := hal.size; omega
  replace kl := kl.below hal kl.lt
  replace kc := kc.below hal kc.lt
  replace hb0 := below_chain hb0 hal
  clear hal hsz
  go_upto_region 2 with fail
  have hvx : ∃ v0, v0 = Value.slice (some ⟨w1.heap.size, 0, none⟩) 0 0 := ⟨_, rfl⟩
  clear hN
  generalize w1.alloc _ = w2 at kl kc hb0 hown hNw ⊢
  go_wp2_with fail
  go_loopw [7, 8] (fun u y wr => ∃ (i : Nat) (v : Value) (cs : List Value), v = u ∧ i ≤ m.length ∧ y = .int .i64 (i : Int) ∧ Blk wr w.heap.size 34 #[.int .u64 (L.p : Int), .int .i64 (L.block : Int), .int .i64 (L.queries : Int), .int .i64 (L.k : Int), .int .i64 (L.n : Int), .int .i64 (L.secret : Int), .int .i64 (L.rows : Int), .int .i64 (L.a : Int), .int .i64 (L.b : Int), .int .i64 (L.b : Int), .int .i64 (L.b : Int)] ∧ Blk wr (w.heap.size + 1) 41 #[.slice D0 r.length k0, .slice D1 co.length k1, .slice D2 li.length k2, .slice D3 qu.length k3, .slice D4 n4 k4] ∧ wr.ownsRow N 28 1 v i cs ∧ GRows 0 wr v cs ((List.range i).map rf) ∧ Below w.heap.size w wr ∧ N ≤ wr.heap.size) (fun _ y _ => m.length - (intOf y).toNat)
  case atStart => exact ⟨0, _, [], rfl, Nat.zero_le _, rfl, kl, kc, hown, grows_nil _ _ _, hb0, hNw⟩
  case round =>
    clear kl kc hown hb0 hNw hvx
    obtain ⟨i, v, cs, rfl, hi, rfl, kl, kc, hown, hgr, hb0, hNw⟩ := hrel
    by_cases hlt : i < m.length
    · have q1 : (0 : Int) ≤ (i : Int) := by omega
      have q2 : (i : Int) < (m.length : Int) := by omega
      have hir : i < r.length := by have := HLEN.out; omega
      have q3 : (i : Int) < (r.length : Int) := by omega
      obtain ⟨bm, qm, Am, lm, cm, rfl, hbm0, hcm0, hrm0⟩ := rows_get hMd hlt
      have hcm := (hb0.cell (p := ⟨bm, qm + i, none⟩) hbm0).trans hcm0
      have hrm := kept_RWd _ _ _ _ hb0 hrm0
      obtain ⟨br, qr, Ar, lr, cr, rfl, hbr0, hcr0, hrr0⟩ := rows_get hRd hir
      have hcr := (hb0.cell (p := ⟨br, qr + i, none⟩) hbr0).trans hcr0
      have hrr := kept_RWd _ _ _ _ hb0 hrr0
      have x5 : bm < N := by omega
      have x6 : br < N := by omega
      have x7 : bm ≠ N := by omega
      have x8 : br ≠ N := by omega
      have z1 := (lw_at hrm).1
      have z2 := (lw_at hrr).1
      have z3 : lm = L.block := by have := HML.out _ (List.getElem_mem hlt); omega
      have z4 : lr ≤ 2000 := by have := HRL.out _ (List.getElem_mem hir); omega
      have HC := Lib.hid (fun w' (hb : Below wr.heap.size wr w') => HRow.out Am Ar lm cm lr cr m[i] r[i] w' (kept_RWd _ _ _ _ hb hrm) (kept_RWd _ _ _ _ hb hrr) z3 (by omega))
      have HRI := Lib.hid (HRG.out i hlt hir)
      have HFI := Lib.hid (HRF.out i)
      have HTI := Lib.hid (HRT.out m[i] r[i])
      rw [HRI.out] at HC HTI
      have HRIx := Lib.hid (rfl : rf i = rf i)
      clear z1 z2 z3 z4 hrm0 hrr0 hcm0 hcr0 hrm hrr hir HRIx HRI
      have cl := kl.cell
      have ll := kl.lt
      have cc := kc.cell
      have lc := kc.lt
      have lbm : bm < wr.heap.size := by omega
      have lbr : br < wr.heap.size := by omega
      obtain ⟨fi, hfi⟩ : ∃ fi, fi = rf i := ⟨_, rfl⟩
      rw [← hfi] at HC HTI HFI
      clear hfi
      go_upto_region 5 with fail
      refine wpO_begin (FromX N N) [11, 12, 13] [0, 1, 2, 3, 4, 5, 6, 7, 8, 9, 10, 11, 12, 13, 14] (by kernel_rfl) (by kernel_rfl) ?_
      refine wpO_startK (fromX_moves N N) ?_
      intro Wc HWc hacc
      have hbW : Below wr.heap.size wr Wc := by rw [HWc.out]; exact (Below.refl _ _).drew
      have hNc : N ≤ Wc.heap.size := by have := hbW.size; omega
      replace kl := kl.below hbW kl.lt
      replace kc := kc.below hbW kc.lt
      replace hown := own_below hown hbW (Nat.le_refl _)
      replace hgr := grows_below hgr hbW
      replace hb0 := below_chain hb0 hbW
      repeat (first | (refine wpO_skip (fromX_moves N N) rfl rfl (fun _ _ _ h => h) ?_ ; simp only [Act.put, List.setIfInBounds_toArray, List.set_cons_zero, List.set_cons_succ]) | (refine wpO_light (v := ?_) (fromX_moves N N) rfl rfl (fun _ _ _ h => h) ?_ ?_ ; rotate_left ; (· (intro w' hR ; (first | have hcells := fromX_cellsD ((fromX_moves N N).trans _ _ _ hacc hR) | skip) ; go_simp ; try with_reducible rfl)) ; simp only [Act.put, List.setIfInBounds_toArray, List.set_cons_zero, List.set_cons_succ]))
      refine wpO_call (fromX_moves N N) rfl rfl rfl (fun _ => by go_simp <;> rfl) ((HC.out _ hbW).mono ?_)
      rintro e w7 ⟨va, rfl, hva, hb7⟩
      refine ⟨_, rfl, fromX_below hb7 hNc, ?_⟩
      replace hacc := (fromX_moves N N).trans _ _ _ hacc (fromX_below hb7 hNc)
      simp only [Act.put, List.setIfInBounds_toArray, List.set_cons_zero, List.set_cons_succ]
      obtain ⟨Av, cv, rfl, -⟩ := own_form hva
      have hlv : ∀ q, v.ownBlock = some q → q < Wc.heap.size := fun q e => (hown.lt q e).2
      have hN7 : N ≤ w7.heap.size := by have := hb7.size; omega
      have hx := rwx_own (N := 0) (gb := v.ownBlock) hva HTI.out (Nat.zero_le _) hlv
      replace kl := kl.below hb7 kl.lt
      replace kc := kc.below hb7 kc.lt
      replace hown := own_below hown hb7 (Nat.le_refl _)
      replace hgr := grows_below hgr hb7
      replace hb0 := below_chain hb0 hb7
      clear hva hlv hb7 hacc HC hbW HWc hNc cl ll cc lc
      repeat (first | (refine wpO_skip (fromX_moves N N) rfl rfl (fun _ _ _ h => h) ?_ ; simp only [Act.put, List.setIfInBounds_toArray, List.set_cons_zero, List.set_cons_succ]) | (refine wpO_light (v := ?_) (fromX_moves N N) rfl rfl (fun _ _ _ h => h) ?_ ?_ ; rotate_left ; (· (intro w' hR ; (first | have hcells := fromX_cellsD ((fromX_moves N N).trans _ _ _ hacc hR) | skip) ; go_simp ; try with_reducible rfl)) ; simp only [Act.put, List.setIfInBounds_toArray, List.set_cons_zero, List.set_cons_succ]))
      refine wpO_heavy (fromX_moves N N) rfl rfl rfl ?_
      go_simp
      have hal := (Below.refl w7.heap.size w7).alloc (Nat.le_refl _) (.cells #[.slice Av fi.length cv] 28)
      have hrd := rd_one w7 (.slice Av fi.length cv) 28
      refine ⟨fromX_below hal hN7, ?_⟩
      replace kl := kl.below hal kl.lt
      replace kc := kc.below hal kc.lt
      replace hown := own_below hown hal (Nat.le_refl _)
      replace hgr := grows_below hgr hal
      replace hb0 := below_chain hb0 hal
      replace hx := rwx_keep hx hal.size (fun b _ h2 _ => hal.block b h2)
      have hN8 := Nat.le_trans hN7 hal.size
      try simp only [Act.put, List.setIfInBounds_toArray, List.set_cons_zero, List.set_cons_succ]
      generalize w7.alloc _ = w8 at kl kc hown hgr hx hb0 hrd hN8 ⊢
      generalize w7.heap.size = g7 at hrd ⊢
      clear hal hN7
      have hacc := (fromX_moves N N).refl w8
      repeat (first | (refine wpO_skip (fromX_moves N N) rfl rfl (fun _ _ _ h => h) ?_ ; simp only [Act.put, List.setIfInBounds_toArray, List.set_cons_zero, List.set_cons_succ]) | (refine wpO_light (v := ?_) (fromX_moves N N) rfl rfl (fun _ _ _ h => h) ?_ ?_ ; rotate_left ; (· (intro w' hR ; (first | have hcells := fromX_cellsD ((fromX_moves N N).trans _ _ _ hacc hR) | skip) ; go_simp ; try with_reducible rfl)) ; simp only [Act.put, List.setIfInBounds_toArray, List.set_cons_zero, List.set_cons_succ]))
      refine wpO_heavy (fromX_moves N N) rfl rfl rfl ?_
      refine wp_append_rd _ _ rfl el_ww rfl hown rfl hrd (by intro u hu; simp at hu; subst hu; rfl) (by omega) hN8 ?_
      intro v' wn hown' hgrow hblk
      have hvb : ∀ q, v.ownBlock = some q → N ≤ q := fun q e => (hown.lt q e).1
      refine ⟨fromX_row hgrow hN8 hvb, ?_⟩
      have hgn := grows_app hgr hx hgrow hblk
      rw [HFI.out] at hgn
      replace kl := kl.grown hgrow (fun e => by first | (have := hvb _ e; omega) | (have := hvb _ e.symm; omega))
      replace kc := kc.grown hgrow (fun e => by first | (have := hvb _ e; omega) | (have := hvb _ e.symm; omega))
      replace hb0 := hb0.trans ((lw_grow hown hgrow hN8).mono (by omega))
      have hNn : N ≤ wn.heap.size := by have := hgrow.size; omega
      clear hown hgr hx hgrow hblk hvb hN8 hrd hacc
      have hacc := (fromX_moves N N).refl wn
      try simp only [Act.put, List.setIfInBounds_toArray, List.set_cons_zero, List.set_cons_succ]
      repeat (first | (refine wpO_skip (fromX_moves N N) rfl rfl (fun _ _ _ h => h) ?_ ; simp only [Act.put, List.setIfInBounds_toArray, List.set_cons_zero, List.set_cons_succ]) | (refine wpO_light (v := ?_) (fromX_moves N N) rfl rfl (fun _ _ _ h => h) ?_ ?_ ; rotate_left ; (· (intro w' hR ; (first | have hcells := fromX_cellsD ((fromX_moves N N).trans _ _ _ hacc hR) | skip) ; go_simp ; try with_reducible rfl)) ; simp only [Act.put, List.setIfInBounds_toArray, List.set_cons_zero, List.set_cons_succ]))
      refine wpO_done ?_
      go_wp2
      go_roundw
      case rel => exact ⟨i + 1, v', _, rfl, by omega, by go_num, kl, kc, hown', hgn, hb0, hNn⟩
      case measure => simp [intOf]; omega
    · obtain rfl : i = m.length := by omega
      have q2 : ¬ ((m.length : Int) < (m.length : Int)) := by omega
      have cl := kl.cell
      have ll := kl.lt
      have cc := kc.cell
      have lc := kc.lt
      go_upto_region 6 with fail
      refine wpO_begin (FromX N N) [3, 6, 9, 10, 11] [0, 1, 2, 4, 5, 7, 8, 3, 6, 9, 10, 11, 12] (by kernel_rfl) (by kernel_rfl) ?_
      refine wpO_startK (fromX_moves N N) ?_
      intro Wc HWc hacc
      have hbW : Below wr.heap.size wr Wc := by rw [HWc.out]; exact (Below.refl _ _).drew
      have hNc : N ≤ Wc.heap.size := by have := hbW.size; omega
      replace kl := kl.below hbW kl.lt
      replace kc := kc.below hbW kc.lt
      replace hown := own_below hown hbW (Nat.le_refl _)
      replace hgr := grows_below hgr hbW
      replace hb0 := below_chain hb0 hbW
      repeat (first | (refine wpO_skip (fromX_moves N N) rfl rfl (fun _ _ _ h => h) ?_ ; simp only [Act.put, List.setIfInBounds_toArray, List.set_cons_zero, List.set_cons_succ]) | (refine wpO_light (v := ?_) (fromX_moves N N) rfl rfl (fun _ _ _ h => h) ?_ ?_ ; rotate_left ; (· (intro w' hR ; (first | have hcells := fromX_cellsD ((fromX_moves N N).trans _ _ _ hacc hR) | skip) ; go_simp ; try with_reducible rfl)) ; simp only [Act.put, List.setIfInBounds_toArray, List.set_cons_zero, List.set_cons_succ]))
      refine wpO_call (fromX_moves N N) rfl rfl rfl (fun _ => by go_simp <;> rfl) ((HCo.out _).mono ?_)
      rintro e w5 ⟨rfl, hb5⟩
      refine ⟨_, rfl, fromX_below hb5 hNc, ?_⟩
      replace hacc := (fromX_moves N N).trans _ _ _ hacc (fromX_below hb5 hNc)
      simp only [Act.put, List.setIfInBounds_toArray, List.set_cons_zero, List.set_cons_succ]
      have hN5 : N ≤ w5.heap.size := by have := hb5.size; omega
      replace kl := kl.below hb5 kl.lt
      replace kc := kc.below hb5 kc.lt
      replace hown := own_below hown hb5 (Nat.le_refl _)
      replace hgr := grows_below hgr hb5
      replace hb0 := below_chain hb0 hb5
      clear hb5
      repeat (first | (refine wpO_skip (fromX_moves N N) rfl rfl (fun _ _ _ h => h) ?_ ; simp only [Act.put, List.setIfInBounds_toArray, List.set_cons_zero, List.set_cons_succ]) | (refine wpO_light (v := ?_) (fromX_moves N N) rfl rfl (fun _ _ _ h => h) ?_ ?_ ; rotate_left ; (· (intro w' hR ; (first | have hcells := fromX_cellsD ((fromX_moves N N).trans _ _ _ hacc hR) | skip) ; go_simp ; try with_reducible rfl)) ; simp only [Act.put, List.setIfInBounds_toArray, List.set_cons_zero, List.set_cons_succ]))
      refine wpO_call (fromX_moves N N) rfl rfl rfl (fun _ => by go_simp <;> rfl) ((HLi.out _ hb0).mono ?_)
      rintro e w6 ⟨v6, rfl, o6, hb6⟩
      refine ⟨_, rfl, fromX_below hb6 hN5, ?_⟩
      replace hacc := (fromX_moves N N).trans _ _ _ hacc (fromX_below hb6 hN5)
      simp only [Act.put, List.setIfInBounds_toArray, List.set_cons_zero, List.set_cons_succ]
      have hN6 : N ≤ w6.heap.size := by have := hb6.size; omega
      obtain ⟨A6, c6, rfl, -⟩ := own_form o6
      have hx2 := rwx_own (N := 0) (gb := v.ownBlock) o6 HLT.out (Nat.zero_le _) (fun q e => (hown.lt q e).2)
      replace kl := kl.below hb6 kl.lt
      replace kc := kc.below hb6 kc.lt
      replace hown := own_below hown hb6 (Nat.le_refl _)
      replace hgr := grows_below hgr hb6
      replace hb0 := below_chain hb0 hb6
      clear hb6 o6
      repeat (first | (refine wpO_skip (fromX_moves N N) rfl rfl (fun _ _ _ h => h) ?_ ; simp only [Act.put, List.setIfInBounds_toArray, List.set_cons_zero, List.set_cons_succ]) | (refine wpO_light (v := ?_) (fromX_moves N N) rfl rfl (fun _ _ _ h => h) ?_ ?_ ; rotate_left ; (· (intro w' hR ; (first | have hcells := fromX_cellsD ((fromX_moves N N).trans _ _ _ hacc hR) | skip) ; go_simp ; try with_reducible rfl)) ; simp only [Act.put, List.setIfInBounds_toArray, List.set_cons_zero, List.set_cons_succ]))
      refine wpO_call (fromX_moves N N) rfl rfl rfl (fun _ => by go_simp <;> rfl) ((HQu.out _ hb0).mono ?_)
      rintro e w7 ⟨v7, rfl, o7, hb7⟩
      refine ⟨_, rfl, fromX_below hb7 hN6, ?_⟩
      replace hacc := (fromX_moves N N).trans _ _ _ hacc (fromX_below hb7 hN6)
      simp only [Act.put, List.setIfInBounds_toArray, List.set_cons_zero, List.set_cons_succ]
      have hN7 : N ≤ w7.heap.size := by have := hb7.size; omega
      obtain ⟨A7, c7, rfl, -⟩ := own_form o7
      have hx3 := rwx_own (N := 0) (gb := v.ownBlock) o7 HQT.out (Nat.zero_le _) (fun q e => (hown.lt q e).2)
      replace hx2 := rwx_keep hx2 hb7.size (fun b _ h2 _ => hb7.block b h2)
      replace kl := kl.below hb7 kl.lt
      replace hown := own_below hown hb7 (Nat.le_refl _)
      replace hgr := grows_below hgr hb7
      replace hb0 := below_chain hb0 hb7
      clear hb7 o7 hacc hbW HWc hNc hN5 hN6 cl ll cc lc kc
      have hx1 := rwx_old (gb := v.ownBlock) hc hb0 (fun q e => by have := (hown.lt q e).1; omega)
      repeat (first | (refine wpO_skip (fromX_moves N N) rfl rfl (fun _ _ _ h => h) ?_ ; simp only [Act.put, List.setIfInBounds_toArray, List.set_cons_zero, List.set_cons_succ]) | (refine wpO_light (v := ?_) (fromX_moves N N) rfl rfl (fun _ _ _ h => h) ?_ ?_ ; rotate_left ; (· (intro w' hR ; (first | have hcells := fromX_cellsD ((fromX_moves N N).trans _ _ _ hacc hR) | skip) ; go_simp ; try with_reducible rfl)) ; simp only [Act.put, List.setIfInBounds_toArray, List.set_cons_zero, List.set_cons_succ]))
      refine wpO_heavy (fromX_moves N N) rfl rfl rfl ?_
      go_simp
      have hal := (Below.refl w7.heap.size w7).alloc (Nat.le_refl _) (.cells #[.slice D1 co.length k1, .slice A6 (li.length + 1) c6, .slice A7 (quadR L qu).length c7] 28)
      have hrd := rd_three w7 (.slice D1 co.length k1) (.slice A6 (li.length + 1) c6) (.slice A7 (quadR L qu).length c7) 28
      refine ⟨fromX_below hal hN7, ?_⟩
      replace kl := kl.below hal kl.lt
      replace hown := own_below hown hal (Nat.le_refl _)
      replace hgr := grows_below hgr hal
      replace hb0 := below_chain hb0 hal
      replace hx1 := rwx_keep hx1 hal.size (fun b _ h2 _ => hal.block b h2)
      replace hx2 := rwx_keep hx2 hal.size (fun b _ h2 _ => hal.block b h2)
      replace hx3 := rwx_keep hx3 hal.size (fun b _ h2 _ => hal.block b h2)
      have hN8 := Nat.le_trans hN7 hal.size
      try simp only [Act.put, List.setIfInBounds_toArray, List.set_cons_zero, List.set_cons_succ]
      generalize w7.alloc _ = w8 at kl hown hgr hx1 hx2 hx3 hb0 hrd hN8 ⊢
      generalize w7.heap.size = g7 at hrd ⊢
      clear hal hN7
      have hacc := (fromX_moves N N).refl w8
      repeat (first | (refine wpO_skip (fromX_moves N N) rfl rfl (fun _ _ _ h => h) ?_ ; simp only [Act.put, List.setIfInBounds_toArray, List.set_cons_zero, List.set_cons_succ]) | (refine wpO_light (v := ?_) (fromX_moves N N) rfl rfl (fun _ _ _ h => h) ?_ ?_ ; rotate_left ; (· (intro w' hR ; (first | have hcells := fromX_cellsD ((fromX_moves N N).trans _ _ _ hacc hR) | skip) ; go_simp ; try with_reducible rfl)) ; simp only [Act.put, List.setIfInBounds_toArray, List.set_cons_zero, List.set_cons_succ]))
      refine wpO_heavy (fromX_moves N N) rfl rfl rfl ?_
      refine wp_append_rd _ _ rfl el_ww rfl hown rfl hrd (by intro u hu; simp at hu; rcases hu with rfl | rfl | rfl <;> rfl) (by omega) hN8 ?_
      intro v' wn hown' hgrow hblk
      have hvb : ∀ q, v.ownBlock = some q → N ≤ q := fun q e => (hown.lt q e).1
      refine ⟨fromX_row hgrow hN8 hvb, ?_⟩
      have hgn := grows_app3 hgr hx1 hx2 hx3 hgrow hblk
      rw [HPS.out] at hgn
      replace kl := kl.grown hgrow (fun e => by first | (have := hvb _ e; omega) | (have := hvb _ e.symm; omega))
      replace hb0 := hb0.trans ((lw_grow hown hgrow hN8).mono (by omega))
      have hrows := grows_done hgn hown'
      clear hown hgr hx1 hx2 hx3 hgrow hblk hvb hN8 hrd hacc hgn
      have hacc := (fromX_moves N N).refl wn
      try simp only [Act.put, List.setIfInBounds_toArray, List.set_cons_zero, List.set_cons_succ]
      repeat (first | (refine wpO_skip (fromX_moves N N) rfl rfl (fun _ _ _ h => h) ?_ ; simp only [Act.put, List.setIfInBounds_toArray, List.set_cons_zero, List.set_cons_succ]) | (refine wpO_light (v := ?_) (fromX_moves N N) rfl rfl (fun _ _ _ h => h) ?_ ?_ ; rotate_left ; (· (intro w' hR ; (first | have hcells := fromX_cellsD ((fromX_moves N N).trans _ _ _ hacc hR) | skip) ; go_simp ; try with_reducible rfl)) ; simp only [Act.put, List.setIfInBounds_toArray, List.set_cons_zero, List.set_cons_succ]))
      refine wpO_done ?_
      clear hacc
      rw [← HPL.out] at hown'
      obtain ⟨Ap, cp, rfl, -⟩ := own_form hown'
      clear hown' HPS HRF HRG HRT HLT HQT HCo HLi HQu HRow HML HRL hMd hRd hc hl hq
      obtain ⟨-, -, -, hPd⟩ := rows_at hrows
      have HM3 := HPL.out
      obtain ⟨M, hM⟩ : ∃ M, M = ps.length := ⟨_, rfl⟩
      have hM4 : M ≤ 400003 := by omega
      have hMM := Lib.hid hM
      rw [← hM]
      clear HM3 hM
      have cl := kl.cell
      have ll := kl.lt
      go_wp2_with fail
      refine (HPt.out _).mono ?_
      rintro e w9 ⟨u1, u2, rfl, hpa, hpb, hbx⟩
      replace hPd := hPd.below kept_RWd hbx
      replace kl := kl.below hbx kl.lt
      replace hb0 := below_chain hb0 hbx
      clear hbx cl ll hrows
      obtain ⟨Aa, ca, rfl⟩ := rwd_form hpa
      clear hpa
      have HPG := Lib.hid (show ∀ j, j < L.n → ((List.range L.n).map (domR L.p (rowOf L.p).1 L.n)).getD j 0 = domR L.p (rowOf L.p).1 L.n j from fun j hj => by rw [range_get, if_pos hj])
      have HPN := Lib.hid (show ((List.range L.n).map (domR L.p (rowOf L.p).1 L.n)).length = L.n by simp)
      have HCO := Lib.hid (show ∀ j i, colE L ps j i = evalP L.p (ps.getD i []) (domR L.p (rowOf L.p).1 L.n j) from fun _ _ => rfl)
      have HRS := Lib.hid (show colsR L ps = (List.range L.n).map fun j => (List.range M).map (colE L ps j) by rw [hMM.out]; rfl)
      generalize (List.range L.n).map (domR L.p (rowOf L.p).1 L.n) = P at *
      obtain ⟨Ab, cb, rfl⟩ := rwd_form hpb
      have hrp := (lw_at hpb).2.2.2.2
      obtain ⟨T, hTT⟩ : ∃ T, T = P.length := ⟨_, rfl⟩
      have HTT := Lib.hid hTT
      have gT : (T : Int) ≤ 1024 := by have := HPN.out; omega
      rw [← hTT]
      clear hTT hpb
      go_upto_region 9 with fail
      have hown := own_empty w9 28 (base := w9.heap.size) (Nat.le_refl _)
      have hal := (Below.refl w9.heap.size w9).alloc (Nat.le_refl _) (.cells #[] 28)
      have kl9 := kl.alloc (.cells #[] 28)
      have hkl9 := kl.lt
      go_wp2_with fail
      go_loopw [11, 12] (fun u y wr => ∃ (j : Nat) (v : Value) (cs : List Value), v = u ∧ j ≤ T ∧ y = .int .i64 (j : Int) ∧ Blk wr w.heap.size 34 #[.int .u64 (L.p : Int), .int .i64 (L.block : Int), .int .i64 (L.queries : Int), .int .i64 (L.k : Int), .int .i64 (L.n : Int), .int .i64 (L.secret : Int), .int .i64 (L.rows : Int), .int .i64 (L.a : Int), .int .i64 (L.b : Int), .int .i64 (L.b : Int), .int .i64 (L.b : Int)] ∧ wr.ownsRow w9.heap.size 28 1 v j cs ∧ GRows 0 wr v cs ((List.range j).map fun j => (List.range M).map (colE L ps j)) ∧ Below w9.heap.size w9 wr) (fun _ y _ => T - (intOf y).toNat)
      case atStart => exact ⟨0, _, [], rfl, Nat.zero_le _, rfl, kl9, hown, grows_nil _ _ _, hal⟩
      case round =>
        clear kl kl9 hown hal
        obtain ⟨j, v, cs, rfl, hj, rfl, kl, hown, hgr, hb9⟩ := hrel
        by_cases hltj : j < T
        · have q3 : (j : Int) < (T : Int) := by omega
          have q4 : (0 : Int) ≤ (j : Int) := by omega
          obtain ⟨wo, hwo⟩ : ∃ wo, wo = wr := ⟨_, rfl⟩
          subst hwo
          have hjP : j < P.length := by have := HTT.out; omega
          have HRN := Lib.hid (rangeF_next (fun j => (List.range M).map (colE L ps j)) j)
          obtain ⟨f, hf⟩ : ∃ f, f = colE L ps j := ⟨_, rfl⟩
          have HF := Lib.hid (show ∀ i, f i = evalP L.p (ps.getD i []) (P.getD j 0) from fun i => by rw [hf, HCO.out, HPG.out j (by have := HPN.out; omega)])
          have HFT := Lib.hid (show ∀ x ∈ (List.range M).map f, x < 18446744073709551616 from fun x hx => by
            obtain ⟨i, -, rfl⟩ := List.mem_map.1 hx
            rw [hf]
            exact HCE.out _ _ _)
          have HFN := Lib.hid (fun i => range_snoc f i)
          rw [← hf] at HRN
          clear hf
          go_upto_region 13 with fail
          have hownx := own_empty wo 22 (base := wo.heap.size) (Nat.le_refl _)
          have hal := (Below.refl wo.heap.size wo).alloc (Nat.le_refl _) (.cells #[] 22)
          go_wp2_with fail
          go_loopw [13, 14] (fun u y wr => ∃ (i : Nat) (x : Value), x = u ∧ i ≤ M ∧ y = .int .i64 (i : Int) ∧ wr.ownsRow wo.heap.size 22 1 x i (U64 ((List.range i).map f)) ∧ Below wo.heap.size wo wr) (fun _ y _ => M - (intOf y).toNat)
          case atStart => exact ⟨0, _, rfl, Nat.zero_le _, rfl, hownx, hal⟩
          case round =>
            clear hownx hal
            obtain ⟨i, x, rfl, hi2, rfl, hownx, hbo⟩ := hrel
            have hb9x := below_chain hb9 hbo
            by_cases hlti : i < M
            · have q5 : (i : Int) < (M : Int) := by omega
              have q6 : (0 : Int) ≤ (i : Int) := by omega
              have hip : i < ps.length := by rw [← hMM.out]; exact hlti
              obtain ⟨bp, qp, A1, l1, c1, rfl, hbp9, hcp9, hrp9⟩ := rows_get hPd hip
              obtain ⟨bq, qq, rfl, hbq9, hcq9⟩ := lw_get hrp hjP
              have hcp := (hb9x.cell (p := ⟨bp, qp + i, none⟩) hbp9).trans hcp9
              have hcq := (hb9x.cell (p := ⟨bq, qq + j, none⟩) hbq9).trans hcq9
              have hrp1 := kept_RWd _ _ _ _ hb9x hrp9
              have hs9 := hb9.size
              have hso := hbo.size
              have hbp : bp < wo.heap.size := by omega
              have hbq : bq < wo.heap.size := by omega
              have hbp2 : bp < wr.heap.size := by omega
              have hbq2 : bq < wr.heap.size := by omega
              have hll : w.heap.size < wo.heap.size := kl.lt
              clear hbp9 hcp9 hrp9 hbq9 hcq9
              have hgd : ps.getD i [] = ps[i] := by rw [List.getD_eq_getElem?_getD, List.getElem?_eq_getElem hip]; rfl
              have HFi := Lib.hid (HF.out i)
              rw [hgd] at HFi
              obtain ⟨pi, hpi⟩ : ∃ pi, pi = ps[i] := ⟨_, rfl⟩
              rw [← hpi] at hrp1 HFi
              obtain ⟨y, hy⟩ : ∃ y, y = P.getD j 0 := ⟨_, rfl⟩
              rw [← hy] at hcq HFi
              obtain ⟨z, hz⟩ : ∃ z, z = f i := ⟨_, rfl⟩
              rw [← hz] at HFi
              have HFNi := Lib.hid (HFN.out i)
              rw [← hz] at HFNi
              have HE1 := Lib.hid (fun w' (hb' : Below wr.heap.size wr w') => by have := HEv.out A1 l1 c1 y pi w' (kept_RWd _ _ _ _ hb' hrp1); rw [← HFi.out] at this; exact this)
              have kl2 := kl.below hbo kl.lt
              have cl := kl2.cell
              have ll := kl2.lt
              clear hgd hpi hy hz HFi hip kl2
              go_upto_region 16 with fail
              refine wpO_begin (From wo.heap.size) [11, 12, 13] [0, 1, 2, 3, 4, 5, 6, 7, 8, 9, 10, 11, 12, 13, 14] (by kernel_rfl) (by kernel_rfl) ?_
              refine wpO_startK (from_moves wo.heap.size) ?_
              intro Wc HWc hacc
              have hbW : Below wr.heap.size wr Wc := by rw [HWc.out]; exact (Below.refl _ _).drew
              have hNc : wo.heap.size ≤ Wc.heap.size := by have := hbW.size; omega
              replace hownx := own_below hownx hbW (Nat.le_refl _)
              replace hbo := below_chain hbo hbW
              repeat (first | (refine wpO_skip (from_moves wo.heap.size) rfl rfl (fun _ _ _ h => h) ?_ ; simp only [Act.put, List.setIfInBounds_toArray, List.set_cons_zero, List.set_cons_succ]) | (refine wpO_light (v := ?_) (from_moves wo.heap.size) rfl rfl (fun _ _ _ h => h) ?_ ?_ ; rotate_left ; (· (intro w' hR ; (first | have hcells := from_cellsD ((from_moves wo.heap.size).trans _ _ _ hacc hR) | skip) ; go_simp ; try with_reducible rfl)) ; simp only [Act.put, List.setIfInBounds_toArray, List.set_cons_zero, List.set_cons_succ]))
              refine wpO_call (from_moves wo.heap.size) rfl rfl rfl (fun _ => by go_simp <;> rfl) ((HE1.out _ hbW).mono ?_)
              rintro e w10 ⟨rfl, hbx⟩
              refine ⟨_, rfl, from_later hbx hNc, ?_⟩
              replace hacc := (from_moves wo.heap.size).trans _ _ _ hacc (from_later hbx hNc)
              simp only [Act.put, List.setIfInBounds_toArray, List.set_cons_zero, List.set_cons_succ]
              have hN10 : wo.heap.size ≤ w10.heap.size := by have := hbx.size; omega
              replace hownx := own_below hownx hbx (Nat.le_refl _)
              replace hbo := below_chain hbo hbx
              clear hbx hbW HWc hNc cl ll hcp hcq hbp2 hbq2 hacc
              have hacc := (from_moves wo.heap.size).refl w10
              repeat (first | (refine wpO_skip (from_moves wo.heap.size) rfl rfl (fun _ _ _ h => h) ?_ ; simp only [Act.put, List.setIfInBounds_toArray, List.set_cons_zero, List.set_cons_succ]) | (refine wpO_light (v := ?_) (from_moves wo.heap.size) rfl rfl (fun _ _ _ h => h) ?_ ?_ ; rotate_left ; (· (intro w' hR ; (first | have hcells := from_cellsD ((from_moves wo.heap.size).trans _ _ _ hacc hR) | skip) ; go_simp ; try with_reducible rfl)) ; simp only [Act.put, List.setIfInBounds_toArray, List.set_cons_zero, List.set_cons_succ]))
              refine wpO_heavy (from_moves wo.heap.size) rfl rfl rfl ?_
              go_simp
              have hal := (Below.refl w10.heap.size w10).alloc (Nat.le_refl _) (.cells #[.int .u64 (z : Int)] 22)
              have hrd := rd_one w10 (.int .u64 (z : Int)) 22
              refine ⟨from_later hal hN10, ?_⟩
              replace hownx := own_below hownx hal (Nat.le_refl _)
              replace hbo := below_chain hbo hal
              have hN11 := Nat.le_trans hN10 hal.size
              try simp only [Act.put, List.setIfInBounds_toArray, List.set_cons_zero, List.set_cons_succ]
              generalize w10.alloc _ = w11 at hownx hbo hrd hN11 ⊢
              generalize w10.heap.size = g10 at hrd ⊢
              clear hal hN10 hacc
              have hacc := (from_moves wo.heap.size).refl w11
              repeat (first | (refine wpO_skip (from_moves wo.heap.size) rfl rfl (fun _ _ _ h => h) ?_ ; simp only [Act.put, List.setIfInBounds_toArray, List.set_cons_zero, List.set_cons_succ]) | (refine wpO_light (v := ?_) (from_moves wo.heap.size) rfl rfl (fun _ _ _ h => h) ?_ ?_ ; rotate_left ; (· (intro w' hR ; (first | have hcells := from_cellsD ((from_moves wo.heap.size).trans _ _ _ hacc hR) | skip) ; go_simp ; try with_reducible rfl)) ; simp only [Act.put, List.setIfInBounds_toArray, List.set_cons_zero, List.set_cons_succ]))
              refine wpO_heavy (from_moves wo.heap.size) rfl rfl rfl ?_
              refine wp_append_rd _ _ rfl el_w rfl hownx rfl hrd (one_U64 [z]) (by omega) hN11 ?_
              intro x' wn hownx' hgrow hblk
              have hBn := lw_grow hownx hgrow hN11
              refine ⟨hBn, ?_⟩
              replace hbo := hbo.trans hBn
              replace hownx' : wn.ownsRow wo.heap.size 22 1 x' (i + 1) (U64 ((List.range (i + 1)).map f)) := lw_app (b := [z]) hownx' HFNi.out
              clear hownx hgrow hblk hBn hrd hacc
              have hacc := (from_moves wo.heap.size).refl wn
              try simp only [Act.put, List.setIfInBounds_toArray, List.set_cons_zero, List.set_cons_succ]
              repeat (first | (refine wpO_skip (from_moves wo.heap.size) rfl rfl (fun _ _ _ h => h) ?_ ; simp only [Act.put, List.setIfInBounds_toArray, List.set_cons_zero, List.set_cons_succ]) | (refine wpO_light (v := ?_) (from_moves wo.heap.size) rfl rfl (fun _ _ _ h => h) ?_ ?_ ; rotate_left ; (· (intro w' hR ; (first | have hcells := from_cellsD ((from_moves wo.heap.size).trans _ _ _ hacc hR) | skip) ; go_simp ; try with_reducible rfl)) ; simp only [Act.put, List.setIfInBounds_toArray, List.set_cons_zero, List.set_cons_succ]))
              refine wpO_done ?_
              go_wp2
              go_roundw
              case rel => exact ⟨i + 1, x', rfl, by omega, by go_num, hownx', hbo⟩
              case measure => simp [intOf]; omega
            · obtain rfl : i = M := by omega
              have q5 : ¬ ((i : Int) < (i : Int)) := by omega
              obtain ⟨Ax, cx, rfl, -⟩ := own_form hownx
              have hvb : ∀ q, v.ownBlock = some q → q < wo.heap.size := fun q e => (hown.lt q e).2
              have hx := rwx_own (N := 0) (gb := v.ownBlock) hownx HFT.out (Nat.zero_le _) hvb
              replace kl := kl.below hbo kl.lt
              replace hown := own_below hown hbo (Nat.le_refl _)
              replace hgr := grows_below hgr hbo
              replace hb9 := below_chain hb9 hbo
              clear hbo hownx hvb hb9x
              go_wp2_with (at_builtin; refine wpl_append rfl _ _ rfl el_ww rfl (hown.alloc _) rfl (rd_one _ _ _) (by intro u hu; simp at hu; subst hu; rfl) (by omega) (by simp; have := hb9.size; omega) ?_)
              intro v' wn hown' hgrow hblk
              have hal := (Below.refl wr.heap.size wr).alloc (Nat.le_refl _) (.cells #[.slice Ax i cx] 28)
              have hvN : ∀ q, v.ownBlock = some q → w9.heap.size ≤ q := fun q e => (hown.lt q e).1
              have hBx := lw_grow (hown.alloc _) hgrow (by simp; have := hb9.size; omega)
              have hk9 : w.heap.size < w9.heap.size := hkl9
              replace kl := kl.below hal kl.lt
              replace hgr := grows_below hgr hal
              replace hx := rwx_keep hx hal.size (fun b _ h2 _ => hal.block b h2)
              have hgn := grows_app hgr hx hgrow (by simpa using hblk)
              rw [HRN.out] at hgn
              replace kl := kl.grown hgrow (fun e => by first | (have := hvN _ e; omega) | (have := hvN _ e.symm; omega))
              replace hb9 := (below_chain hb9 hal).trans hBx
              clear hal hgrow hblk hBx hgr hx hown
              go_wp2
              go_roundw
              case rel => exact ⟨j + 1, v', _, rfl, by omega, by go_num, kl, hown', hgn, hb9⟩
              case measure => simp [intOf]; omega
        · obtain rfl : j = T := by omega
          have q3 : ¬ ((j : Int) < (j : Int)) := by omega
          have hend := grows_done hgr hown
          rw [show (j : Nat) = L.n by rw [HTT.out, HPN.out], ← HRS.out] at hend
          go_wp2
          go_ret
          exact ⟨_, rfl, hend, hb0.trans (hb9.mono hb0.size)⟩
end Go.Proofs.YtefnagiffllhbaaGreat

/- MaskCW -/
namespace Go.Proofs.YtefnagiffllhbaaGreat
open Go.RowKit

theorem polysR_eq {L : LayR} (hL : LayOk L) {m r : List (List Nat)} {co li qu : List Nat} (hlen : m.length = r.length) (hm : ∀ x ∈ m, x.length = L.block) (hr : ∀ x ∈ r, x.length = L.queries) (hq : qu.length = L.block + 2 * L.queries - 1) : polysR L m r co li qu = polysP L m r co li qu := by
  unfold polysR polysP
  rw [quadR_eq hL hq]
  have e : (List.range m.length).map (rowsF L m r) = polyRows L m r m.length := by
    unfold polyRows
    refine List.map_congr_left fun k hk => ?_
    have hk := List.mem_range.1 hk
    have hk2 : k < r.length := by omega
    have e1 : m.getD k [] = m[k] := by rw [List.getD_eq_getElem?_getD, List.getElem?_eq_getElem hk]; rfl
    have e2 : r.getD k [] = r[k] := by rw [List.getD_eq_getElem?_getD, List.getElem?_eq_getElem hk2]; rfl
    unfold rowsF polyRow
    rw [e1, e2]
    exact rowR_eq hL (hm _ (List.getElem_mem hk)) (hr _ (List.getElem_mem hk2))
  rw [e]
  rfl
theorem cols_eq {L : LayR} (hL : LayOk L) (ps : List (List Nat)) {n : Nat} (hn : ps.length = n) : (List.range L.n).map (fun i => (List.range n).map (colV L ps i)) = colsR L ps := by
  unfold colsR
  rw [hn]
  refine List.map_congr_left fun i hi => List.map_congr_left fun j _ => ?_
  obtain ⟨h1, h2⟩ := layLenN hL
  exact evaP_eq hL.p h1 h2 _ (List.mem_range.1 hi)

set_option maxRecDepth 100000 in
set_option maxHeartbeats 2000000 in
theorem maskColumns_walk (W : World) (cs0 : Array Value) (f0 : Fits Tryz.prog W 30 (Value.agg cs0).cells.toList) (n1 : Int) (f1 : (Lit.int .u64 n1).wf = true) :
    Calls Tryz.prog 5 #[.agg cs0, .int .u64 n1] W fun e W' => e = .returned (.bool true) ∧ Below W.heap.size W W' := by
  obtain ⟨p, pub, vars, A, B, n, c, m, d, rows, ws, bl, bw, qs, rfl, hin⟩ := open_case24 f0
  obtain ⟨s, rfl, hslt⟩ := wf_n64 f1
  clear f0 f1
  have HR := Lib.hid (fun w' (hb : Below W.heap.size W w') => right25_any p pub vars A B n c m d rows ws bl bw qs w' (kept_RSl kept_RRow _ _ _ _ hb hin.rows) (kept_RWd _ _ _ _ hb hin.ws) hin.p)
  have HF := Lib.hid (fun L w hL => rFromSeed_any L s w hL hslt)
  have HM1 := Lib.hid (fun L pu w' (hb : Below W.heap.size W w') hL h1 h2 => rMessages_any L pu vars A B n c m d rows ws w' hL (kept_RSl kept_RRow _ _ _ _ hb hin.rows) (kept_RWd _ _ _ _ hb hin.ws) h1 h2)
  clear hin
  unfold caseCs at *
  have hb0 : Below W.heap.size W (W.alloc (.cells #[.int .u64 (p : Int), .int .i64 pub, .int .i64 vars, .slice A n c, .int .i64 bl, .int .i64 bw, .int .i64 qs, .slice B m d] 30)) := (Below.refl _ W).alloc (Nat.le_refl _) _
  have kc := Blk.new W 30 #[.int .u64 (p : Int), .int .i64 pub, .int .i64 vars, .slice A n c, .int .i64 bl, .int .i64 bw, .int .i64 qs, .slice B m d]
  go_enter Tryz.func5, Tryz.ntmps5
  go_wp2_with fail
  generalize W.alloc _ = w0 at hb0 kc ⊢
  refine (HR.out _ hb0).mono ?_
  rintro e w1 ⟨⟨hpost, htt⟩, hb1⟩
  obtain ⟨y0, y1, y2, y3, y4, y5, y6, y7, y8, y9, y10, b, rfl, hL⟩ := hpost
  replace kc := kc.below hb1 kc.lt
  replace hb0 := below_chain hb0 hb1
  clear hb1 HR
  go_upto_region 2 with fail
  have kl := Blk.new w1 34 #[.int .u64 y0, .int .i64 y1, .int .i64 y2, .int .i64 y3, .int .i64 y4, .int .i64 y5, .int .i64 y6, .int .i64 y7, .int .i64 y8, .int .i64 y9, .int .i64 y10]
  have hal := (Below.refl w1.heap.size w1).alloc (Nat.le_refl _) (.cells #[.int .u64 y0, .int .i64 y1, .int .i64 y2, .int .i64 y3, .int .i64 y4, .int .i64 y5, .int .i64 y6, .int .i64 y7, .int .i64 y8, .int .i64 y9, .int .i64 y10] 34)
  replace kc := kc.below hal kc.lt
  replace hb0 := below_chain hb0 hal
  clear hal
  generalize w1.alloc _ = w2 at kl kc hb0 ⊢
  generalize w1.heap.size = gl at kl ⊢
  have HL := Lib.hid hL
  have HTT := Lib.hid (htt (.agg #[.int .u64 y0, .int .i64 y1, .int .i64 y2, .int .i64 y3, .int .i64 y4, .int .i64 y5, .int .i64 y6, .int .i64 y7, .int .i64 y8, .int .i64 y9, .int .i64 y10]))
  clear hL htt
  go_wp2_with fail
  refine (awake_any _).mono ?_
  rintro e w3 ⟨rfl, hb3⟩
  replace kl := kl.below hb3 kl.lt
  replace kc := kc.below hb3 kc.lt
  replace hb0 := below_chain hb0 hb3
  clear hb3
  cases b
  · go_wp2_with fail
    refine (awake_any _).mono ?_
    rintro e w4 ⟨rfl, hb4⟩
    go_wp2
    go_ret
    exact ⟨rfl, below_chain hb0 hb4⟩
  · obtain ⟨L, hL, hfor, hcs⟩ := HL.out rfl
    obtain ⟨ht, ha⟩ := HTT.out rfl
    obtain ⟨pu, rfl, h1, h2, h3⟩ := case_facts ht ha
    have hpL : p = L.p := hfor.p.symm
    subst hpL
    clear HL HTT hfor
    rw [hcs] at kl
    clear hcs ht ha h3
    obtain ⟨hp1, hp2⟩ := okP_lt hL.p
    by_cases hN : L.n ≤ 128
    rotate_left
    · have d1 : decide ((128 : Int) < (L.n : Int)) = true := decide_eq_true (by omega)
      have g1 : (128 : Int) < (L.n : Int) := by omega
      unfold layCs at *
      have cl := kl.cell
      have ll := kl.lt
      clear kc
      go_wp2_with fail
      refine (awake_any _).mono ?_
      rintro e w4 ⟨rfl, hb4⟩
      go_wp2
      go_ret
      exact ⟨rfl, below_chain hb0 hb4⟩
    have d1 : decide ((128 : Int) < (L.n : Int)) = false := decide_eq_false (by omega)
    have g1 : ¬ ((128 : Int) < (L.n : Int)) := by omega
    have HM := Lib.hid (fun w' hb => HM1.out L pu w' hb hL h1 h2)
    have hT4 : L.a + L.b + L.b + L.b ≤ 400000 := by have := hL.a; have := hL.b; omega
    have HFL := Lib.hid (fun w => HF.out L w hL)
    have HO := Lib.hid (fun w => own_any L w)
    have hq2 := hL.q2
    have hb2 := hL.b2
    have hb1 := hL.b1
    have hMl := msgsR_len L rows ws pu
    have hMr : ∀ x ∈ msgsR L rows ws pu, x.length = L.block := fun x hx => msgsR_row hx
    have hRl := rowsP_len L s (L.a + L.b + L.b + L.b)
    have hRr : ∀ x ∈ rowsP L s (L.a + L.b + L.b + L.b), x.length = L.queries := fun x hx => by
      obtain ⟨k, -, rfl⟩ := List.mem_map.1 hx
      exact vecP_len _ _ _ _
    have z1 := vecP_len L.p s [1] L.k
    have z2 := vecP_len L.p s [2] (L.k + L.block - 2)
    have z3 := vecP_len L.p s [3] (L.block + 2 * L.queries - 1)
    have hk1 := hL.k
    generalize msgsR L rows ws pu = M at *
    generalize rowsP L s (L.a + L.b + L.b + L.b) = R at *
    generalize vecP L.p s [1] L.k = co at *
    generalize vecP L.p s [2] (L.k + L.block - 2) = li at *
    generalize vecP L.p s [3] (L.block + 2 * L.queries - 1) = qu at *
    have hlen : M.length = R.length := by omega
    have HPE := polysR_eq hL (co := co) (li := li) hlen hMr hRr z3
    have hpl := polysP_len L M R co li qu
    have HCE := cols_eq hL (polysP L M R co li qu) hpl
    have HA := Lib.hid (fun A0 A1 A2 A3 A4 AM n0 n1 n2 n3 n4 nM c0 c1 c2 c3 c4 cM w hm hr hc hl hq => mColumns_any L A0 A1 A2 A3 A4 AM n0 n1 n2 n3 n4 nM c0 c1 c2 c3 c4 cM M R co li qu w hL hm hr hc hl hq hlen hMr (fun x hx => by rw [hRr x hx]; omega) (by omega) (by omega) (by omega) (by omega))
    have HB := Lib.hid (fun A0 A1 A2 A3 A4 AM n0 n1 n2 n3 n4 nM c0 c1 c2 c3 c4 cM w hm hr hc hl hq => rColumns_any L A0 A1 A2 A3 A4 AM n0 n1 n2 n3 n4 nM c0 c1 c2 c3 c4 cM M R co li qu w hL hm hr hc hl hq hlen hMr (fun x hx => by rw [hRr x hx]; omega) (by omega) (by omega) (by omega))
    rw [HCE] at HA
    rw [HPE] at HB
    generalize colsR L (polysP L M R co li qu) = CC at *
    clear hL HF hp1 HM1 h1 h2 HPE HCE hpl hlen hMl hMr hRl hRr z1 z2 z3 hk1 hT4 hb1 hb2 hq2
    unfold layCs tabV at *
    have cl := kl.cell
    have ll := kl.lt
    go_wp2_with fail
    refine (HFL.out _).mono ?_
    rintro e w4 ⟨u0, u1, u2, u3, u4, rfl, r0, r1, r2, r3, r4, hbx⟩
    replace kl := kl.below hbx kl.lt
    replace kc := kc.below hbx kc.lt
    replace hb0 := below_chain hb0 hbx
    clear hbx HFL cl ll
    obtain ⟨D0, n0, k0, rfl⟩ := RSl.slc r0
    obtain ⟨D1, k1, rfl⟩ := rwd_form r1
    obtain ⟨D2, k2, rfl⟩ := rwd_form r2
    obtain ⟨D3, k3, rfl⟩ := rwd_form r3
    obtain ⟨D4, k4, rfl⟩ := rwd_form r4
    have cl := kl.cell
    have ll := kl.lt
    have cs := kc.cell
    have ls := kc.lt
    go_upto_region 5 with fail
    have kd := Blk.new w4 41 #[.slice D0 n0 k0, .slice D1 co.length k1, .slice D2 li.length k2, .slice D3 qu.length k3, .slice D4 (vecP bigQ s [4] L.n).length k4]
    have hal := (Below.refl w4.heap.size w4).alloc (Nat.le_refl _) (.cells #[.slice D0 n0 k0, .slice D1 co.length k1, .slice D2 li.length k2, .slice D3 qu.length k3, .slice D4 (vecP bigQ s [4] L.n).length k4] 41)
    replace kl := kl.below hal kl.lt
    replace kc := kc.below hal kc.lt
    replace hb0 := below_chain hb0 hal
    replace r0 := kept_RRows _ _ _ _ hal r0
    replace r1 := kept_RWd _ _ _ _ hal r1
    replace r2 := kept_RWd _ _ _ _ hal r2
    replace r3 := kept_RWd _ _ _ _ hal r3
    clear hal cl ll cs ls
    generalize (vecP bigQ s [4] L.n).length = n4 at *
    generalize w4.alloc _ = w5 at kl kc kd hb0 r0 r1 r2 r3 ⊢
    generalize w4.heap.size = gc at kd ⊢
    have cl := kl.cell
    have ll := kl.lt
    have cs := kc.cell
    have ls := kc.lt
    go_wp2_with fail
    refine (HM.out _ hb0).mono ?_
    rintro e w6 ⟨vM, rfl, hM, hbx⟩
    replace kl := kl.below hbx kl.lt
    replace kd := kd.below hbx kd.lt
    replace hb0 := below_chain hb0 hbx
    replace r0 := kept_RRows _ _ _ _ hbx r0
    replace r1 := kept_RWd _ _ _ _ hbx r1
    replace r2 := kept_RWd _ _ _ _ hbx r2
    replace r3 := kept_RWd _ _ _ _ hbx r3
    clear hbx cl ll cs ls kc
    obtain ⟨AM, nM, cM, rfl⟩ := RSl.slc hM
    have cl := kl.cell
    have ll := kl.lt
    have cd := kd.cell
    have ld := kd.lt
    go_upto_region 6 with fail
    refine wpO_begin (Later) [1, 4, 8, 9] [0, 2, 3, 5, 6, 7, 1, 4, 8, 9, 10] (by kernel_rfl) (by kernel_rfl) ?_
    refine wpO_startK (later_moves) ?_
    intro Wc HWc hacc
    have hbW : Below w6.heap.size w6 Wc := by rw [HWc.out]; exact (Below.refl _ _).drew
    replace hb0 := below_chain hb0 hbW
    replace r0 := kept_RRows _ _ _ _ hbW r0
    replace r1 := kept_RWd _ _ _ _ hbW r1
    replace r2 := kept_RWd _ _ _ _ hbW r2
    replace r3 := kept_RWd _ _ _ _ hbW r3
    replace hM := kept_RRows _ _ _ _ hbW hM
    repeat (first | (refine wpO_skip (later_moves) rfl rfl (fun _ _ _ h => h) ?_ ; simp only [Act.put, List.setIfInBounds_toArray, List.set_cons_zero, List.set_cons_succ]) | (refine wpO_light (v := ?_) (later_moves) rfl rfl (fun _ _ _ h => h) ?_ ?_ ; rotate_left ; (· (intro w' hR ; (first | have hcells := later_cellsD ((later_moves).trans _ _ _ hacc hR) | skip) ; go_simp ; try with_reducible rfl)) ; simp only [Act.put, List.setIfInBounds_toArray, List.set_cons_zero, List.set_cons_succ]))
    refine wpO_call (later_moves) rfl rfl rfl (fun _ => by go_simp <;> rfl) ((HO.out _).mono ?_)
    rintro e w7 ⟨rfl, hbx⟩
    refine ⟨_, rfl, hbx, ?_⟩
    replace hacc := (later_moves).trans _ _ _ hacc (hbx)
    simp only [Act.put, List.setIfInBounds_toArray, List.set_cons_zero, List.set_cons_succ]
    replace hb0 := below_chain hb0 hbx
    replace r0 := kept_RRows _ _ _ _ hbx r0
    replace r1 := kept_RWd _ _ _ _ hbx r1
    replace r2 := kept_RWd _ _ _ _ hbx r2
    replace r3 := kept_RWd _ _ _ _ hbx r3
    replace hM := kept_RRows _ _ _ _ hbx hM
    clear hbx
    repeat (first | (refine wpO_skip (later_moves) rfl rfl (fun _ _ _ h => h) ?_ ; simp only [Act.put, List.setIfInBounds_toArray, List.set_cons_zero, List.set_cons_succ]) | (refine wpO_light (v := ?_) (later_moves) rfl rfl (fun _ _ _ h => h) ?_ ?_ ; rotate_left ; (· (intro w' hR ; (first | have hcells := later_cellsD ((later_moves).trans _ _ _ hacc hR) | skip) ; go_simp ; try with_reducible rfl)) ; simp only [Act.put, List.setIfInBounds_toArray, List.set_cons_zero, List.set_cons_succ]))
    refine wpO_call (later_moves) rfl rfl rfl (fun _ => by go_simp <;> rfl) ((HA.out D0 D1 D2 D3 D4 AM n0 co.length li.length qu.length n4 nM k0 k1 k2 k3 k4 cM _ hM r0 r1 r2 r3).mono ?_)
    rintro e w8 ⟨v8, rfl, hA, hbx⟩
    refine ⟨_, rfl, hbx, ?_⟩
    replace hacc := (later_moves).trans _ _ _ hacc (hbx)
    simp only [Act.put, List.setIfInBounds_toArray, List.set_cons_zero, List.set_cons_succ]
    replace hb0 := below_chain hb0 hbx
    replace r0 := kept_RRows _ _ _ _ hbx r0
    replace r1 := kept_RWd _ _ _ _ hbx r1
    replace r2 := kept_RWd _ _ _ _ hbx r2
    replace r3 := kept_RWd _ _ _ _ hbx r3
    replace hM := kept_RRows _ _ _ _ hbx hM
    clear hbx
    obtain ⟨A8, n8, c8, rfl⟩ := RSl.slc hA
    repeat (first | (refine wpO_skip (later_moves) rfl rfl (fun _ _ _ h => h) ?_ ; simp only [Act.put, List.setIfInBounds_toArray, List.set_cons_zero, List.set_cons_succ]) | (refine wpO_light (v := ?_) (later_moves) rfl rfl (fun _ _ _ h => h) ?_ ?_ ; rotate_left ; (· (intro w' hR ; (first | have hcells := later_cellsD ((later_moves).trans _ _ _ hacc hR) | skip) ; go_simp ; try with_reducible rfl)) ; simp only [Act.put, List.setIfInBounds_toArray, List.set_cons_zero, List.set_cons_succ]))
    refine wpO_call (later_moves) rfl rfl rfl (fun _ => by go_simp <;> rfl) ((HB.out D0 D1 D2 D3 D4 AM n0 co.length li.length qu.length n4 nM k0 k1 k2 k3 k4 cM _ hM r0 r1 r2 r3).mono ?_)
    rintro e w9 ⟨v9, rfl, hB, hbx⟩
    refine ⟨_, rfl, hbx, ?_⟩
    replace hacc := (later_moves).trans _ _ _ hacc (hbx)
    simp only [Act.put, List.setIfInBounds_toArray, List.set_cons_zero, List.set_cons_succ]
    replace hb0 := below_chain hb0 hbx
    replace hA := kept_RRows _ _ _ _ hbx hA
    clear hbx
    obtain ⟨A9, n9, c9, rfl⟩ := RSl.slc hB
    have HS := Lib.hid (by have := rSame24_any _ _ _ _ _ _ _ _ _ hA hB; rw [decide_eq_true rfl] at this; exact this)
    repeat (first | (refine wpO_skip (later_moves) rfl rfl (fun _ _ _ h => h) ?_ ; simp only [Act.put, List.setIfInBounds_toArray, List.set_cons_zero, List.set_cons_succ]) | (refine wpO_light (v := ?_) (later_moves) rfl rfl (fun _ _ _ h => h) ?_ ?_ ; rotate_left ; (· (intro w' hR ; (first | have hcells := later_cellsD ((later_moves).trans _ _ _ hacc hR) | skip) ; go_simp ; try with_reducible rfl)) ; simp only [Act.put, List.setIfInBounds_toArray, List.set_cons_zero, List.set_cons_succ]))
    refine wpO_call (later_moves) rfl rfl rfl (fun _ => by go_simp <;> rfl) ((HS.out).mono ?_)
    rintro e w10 ⟨rfl, hbx⟩
    refine ⟨_, rfl, hbx, ?_⟩
    replace hacc := (later_moves).trans _ _ _ hacc (hbx)
    simp only [Act.put, List.setIfInBounds_toArray, List.set_cons_zero, List.set_cons_succ]
    replace hb0 := below_chain hb0 hbx
    repeat (first | (refine wpO_skip (later_moves) rfl rfl (fun _ _ _ h => h) ?_ ; simp only [Act.put, List.setIfInBounds_toArray, List.set_cons_zero, List.set_cons_succ]) | (refine wpO_light (v := ?_) (later_moves) rfl rfl (fun _ _ _ h => h) ?_ ?_ ; rotate_left ; (· (intro w' hR ; (first | have hcells := later_cellsD ((later_moves).trans _ _ _ hacc hR) | skip) ; go_simp ; try with_reducible rfl)) ; simp only [Act.put, List.setIfInBounds_toArray, List.set_cons_zero, List.set_cons_succ]))
    refine wpO_done ?_
    go_wp2
    go_ret
    exact ⟨rfl, hb0⟩
end Go.Proofs.YtefnagiffllhbaaGreat

/- MaskColumnsProof -/
namespace Go.Proofs.YtefnagiffllhbaaGreat.maskColumns
open Go.ChangeShapes Go.WideShapes Go.ChangeAt Go.RowKit
open Go.ChangeMaps (open_string shut_string)
set_option linter.unusedVariables false

theorem own : ownKnob Tryz.prog.godebug = none := by kernel_rfl
theorem laidOut : laidOutB Tryz.prog = true := by kernel_rfl

set_option maxRecDepth 100000 in
theorem lifted (os : Os) (started : os.Started) (H : Type) (enc : TypeId × Value → H) :
    ReturnsInHanded {} Tryz.checked os 5 .any (Rows.maskColumnsSpec.pre6 enc Tryz.prog Tryz.f5 Rows.maskColumnsRow.domain false) (Rows.maskColumnsSpec.post enc Tryz.prog Tryz.f5 false true false false) := by
  refine returnsInHanded_of_change (C := Tryz.checked) own started (by kernel_rfl) Tryz.func5
    (ChangeSpec.witness6 (enc := enc) (C := Tryz.checked) false ⟨#[], #[.agg #[.int .u64 0, .int .i64 0, .int .i64 0, .slice none 0 0, .int .i64 0, .int .i64 0, .int .i64 0, .slice none 0 0], .int .u64 0], []⟩ 12 (by kernel_rfl) (by kernel_rfl) (by kernel_rfl) (by kernel_rfl)) ?_
  intro W base args ds gs before hval0 hW hcnd _
  have hval : ∀ (j : Nat) t v, Tryz.f5.params[j]? = some t → args[j]? = some v → Value.okWide Tryz.prog W .any base t v := hval0
  have hW' := hW
  obtain ⟨p, q, hA0, hV, rfl, hfz, hnd⟩ := hW
  have hA : DataW.TrodAll enc Tryz.prog W 0 (fun _ => true) true Tryz.f5.params.toList args.toList ds p := hA0
  rw [Tryz.params5] at hA hval
  obtain ⟨v0, vs0, d0, ds0, p0, q0, hargs, rfl, rfl, h0, r0⟩ := trodAll_cons hA
  obtain ⟨v1, vs1, d1, ds1, p1, q1, rfl, rfl, rfl, h1, r1⟩ := trodAll_cons r0
  obtain ⟨rfl, rfl, rfl⟩ := trodAll_nil r1
  obtain rfl : args = #[v0, v1] := by cases args; simp_all
  obtain ⟨rfl, rfl⟩ := trodVars_none hV
  have lt0 : ∀ x ∈ p0, x.block < W.heap.size := by obtain ⟨m, hm⟩ := h0; exact DataW.trod_lt m _ _ _ hm
  have k0 := h0
  have lt1 : ∀ x ∈ p1, x.block < W.heap.size := by obtain ⟨m, hm⟩ := h1; exact DataW.trod_lt m _ _ _ hm
  have k1 := h1
  obtain ⟨cs0, rfl, z0⟩ := okWide_struct Tryz.underlying30 (hval 0 30 v0 rfl rfl)
  obtain ⟨a1, rfl, rfl, rfl, w1⟩ := open_int Tryz.underlying22 (hval 1 22 _ rfl rfl) h1
  clear hA0 hval0
  refine (maskColumns_walk W cs0 (Fits.of_trod k0) a1 w1).mono fun e W' ⟨he, bel⟩ => ?_
  subst he
  exact ⟨_, rfl, _, _, _, [], _, [], hW', trodAll_mk1 (shut_bool Tryz.underlying4 _), (trodAll_cons_mk (Below.trod laidOut (by kernel_rfl) (of_decide_eq_true (by kernel_rfl)) k0 bel lt0) (trodAll_cons_mk (Below.trod laidOut (by kernel_rfl) (of_decide_eq_true (by kernel_rfl)) k1 bel lt1) trodAll_mk0)), rfl, bel.frame _, fun h => by cases h⟩

theorem over : Rows.maskColumnsRow.holds Tryz.pinned (OpenSpec.ofChange Rows.maskColumnsSpec) :=
  OpenClaim.holds_of_wide 5 Tryz.f5 rfl rfl rfl rfl rfl rfl rfl ⟨rfl, rfl, rfl, rfl, rfl⟩ rfl rfl rfl rfl rfl (by kernel_rfl) Tryz.func5 (by kernel_rfl)
    (of_decide_eq_true (by kernel_rfl)) (by unfold Func.isWrapper; first | (rw [if_pos (by decide +kernel)]; kernel_rfl) | (rw [if_neg (by decide +kernel)]; exact ⟨rfl, rfl⟩))
    (fun os started H enc _ => lifted os started H enc)

theorem proved : Rows.MaskColumnsSaid := over
#print axioms proved
end Go.Proofs.YtefnagiffllhbaaGreat.maskColumns
