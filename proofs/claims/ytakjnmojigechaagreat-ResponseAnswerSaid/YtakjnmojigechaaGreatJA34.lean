/- A part of the proof: PoG. No condition. -/
import Derived.Test.YtakjnmojigechaaGreatJA31
import Derived.Test.YtakjnmojigechaaGreatJA32
import Derived.Test.YtakjnmojigechaaGreatJA33

namespace Go.Proofs.YtakjnmojigechaaGreat
open Go.RowKit
def rowR (L : LayR) (msg masks : List Nat) : List Nat := padP (addP L.p ((List.range msg.length).map (intR L.p msg 1)) (mulP L.p (zeroP L.p L.block) masks)) L.k
def quadR (L : LayR) (q : List Nat) : List Nat := padP (mulP L.p (zeroP L.p L.block) q) (2 * L.k - 1)
theorem zeroP_len (p b : Nat) : (zeroP p b).length = b + 1 := by simp [zeroP]
theorem intR_lt {p : Nat} (hp : 0 < p) (l : List Nat) (s i : Nat) : intR p l s i < p := Nat.mod_lt _ hp
set_option maxRecDepth 100000 in
set_option maxHeartbeats 1000000 in
theorem rQuad_any (L : LayR) (v0 v1 v2 v4 : Value) (B : Option Addr) (m d : Nat) (q : List Nat) (w : World) (hL : LayOk L) (g0 : slc v0) (g1 : slc v1) (g2 : slc v2) (g4 : slc v4) (hk : RWd w [.slice B m d] q) (hm : m ≤ 30000) :
    Calls Tryz.prog 49 #[.agg (layCs L), .agg #[v0, v1, v2, .slice B m d, v4]] w fun e w' => ∃ v, e = .returned v ∧ RWd w' [v] (quadR L q) ∧ Below w.heap.size w w' := by
  obtain ⟨hp1, hp2⟩ := okP_lt hL.p
  have hb2 := hL.b2
  have hk1 : L.k ≤ 400 := by have := hL.k; have := hL.q2; omega
  have hk2 : 2 ≤ L.k := by have := hL.k; have := hL.b1; omega
  have hml := (lw_at hk).1
  obtain ⟨A0, n0, c0, rfl⟩ := g0
  obtain ⟨A1, n1, c1, rfl⟩ := g1
  obtain ⟨A2, n2, c2, rfl⟩ := g2
  obtain ⟨A4, n4, c4, rfl⟩ := g4
  obtain ⟨t, ht⟩ : ∃ t, t = 2 * L.k - 1 := ⟨_, rfl⟩
  obtain ⟨u, hu⟩ : ∃ u, u = 2 * L.k := ⟨_, rfl⟩
  have HZ := Lib.hid (fun w => rZero_any L w hL)
  have HM := Lib.hid (fun A n c w' (hb : Below w.heap.size w w') ha hn => rMulP_any L.p A B n c m d (zeroP L.p L.block) q w' hL.p ha (kept_RWd _ _ _ _ hb hk) hn (by omega))
  have HP := Lib.hid (fun A n c l w hl hn => rPad_any A n c t l w hl hn (by omega))
  have HR := Lib.hid (show quadR L q = padP (mulP L.p (zeroP L.p L.block) q) t by rw [quadR, ht])
  rw [HR.out]
  have h1 := Lib.hid (show (mulP L.p (zeroP L.p L.block) q).length ≤ 40000 by have := mulP_len L.p (zeroP L.p L.block) q; rw [zeroP_len] at this; omega)
  have h3 := Lib.hid (zeroP_len L.p L.block)
  have h4 : L.block ≤ 256 := hb2
  have e1 : (2 : Int) * (L.k : Int) = (u : Int) := by omega
  have e2 : IntKind.i64.wrap (u : Int) = (u : Int) := wr_i64 _ (by omega) (by omega)
  have e3 : (u : Int) - 1 = (t : Int) := by omega
  have e4 : IntKind.i64.wrap (t : Int) = (t : Int) := wr_i64 _ (by omega) (by omega)
  generalize mulP L.p (zeroP L.p L.block) q = M at *
  clear HR hL hk hml hp1 hp2 hk1 hk2 hb2 hm ht hu
  unfold layCs at *
  obtain ⟨kl, kc, hb0, -⟩ := boxes2 w 39 42 #[.int .u64 (L.p : Int), .int .i64 (L.block : Int), .int .i64 (L.queries : Int), .int .i64 (L.k : Int), .int .i64 (L.n : Int), .int .i64 (L.secret : Int), .int .i64 (L.rows : Int), .int .i64 (L.a : Int), .int .i64 (L.b : Int), .int .i64 (L.b : Int), .int .i64 (L.b : Int)] #[.slice A0 n0 c0, .slice A1 n1 c1, .slice A2 n2 c2, .slice B m d, .slice A4 n4 c4]
  go_enter Tryz.func49, Tryz.ntmps49
  go_upto_region 1 with fail
  generalize (w.alloc _).alloc _ = w2 at kl kc hb0 ⊢
  have cl := kl.cell
  have ll := kl.lt
  have cc := kc.cell
  have lc := kc.lt
  refine wpO_begin (Later) [3, 6, 11] [0, 1, 2, 4, 5, 7, 8, 9, 10, 3, 6, 11, 12] (by kernel_rfl) (by kernel_rfl) ?_
  refine wpO_startK (later_moves) ?_
  intro Wc HWc hacc
  have hbW : Below w2.heap.size w2 Wc := by rw [HWc.out]; exact (Below.refl _ _).drew
  replace hb0 := below_chain hb0 hbW
  repeat (first | (refine wpO_skip (later_moves) rfl rfl (fun _ _ _ h => h) ?_ ; simp only [Act.put, List.setIfInBounds_toArray, List.set_cons_zero, List.set_cons_succ]) | (refine wpO_light (v := ?_) (later_moves) rfl rfl (fun _ _ _ h => h) ?_ ?_ ; rotate_left ; (· (intro w' hR ; (first | have hcells := later_cellsD ((later_moves).trans _ _ _ hacc hR) | skip) ; go_simp ; try with_reducible rfl)) ; simp only [Act.put, List.setIfInBounds_toArray, List.set_cons_zero, List.set_cons_succ]))
  refine wpO_call (later_moves) rfl rfl rfl (fun _ => by go_simp <;> rfl) ((HZ.out _).mono ?_)
  rintro e w3 ⟨v3, rfl, hZ, hb3⟩
  refine ⟨_, rfl, hb3, ?_⟩
  replace hacc := (later_moves).trans _ _ _ hacc (hb3)
  simp only [Act.put, List.setIfInBounds_toArray, List.set_cons_zero, List.set_cons_succ]
  replace hb0 := below_chain hb0 hb3
  obtain ⟨A3, c3, rfl⟩ := rwd_form hZ
  repeat (first | (refine wpO_skip (later_moves) rfl rfl (fun _ _ _ h => h) ?_ ; simp only [Act.put, List.setIfInBounds_toArray, List.set_cons_zero, List.set_cons_succ]) | (refine wpO_light (v := ?_) (later_moves) rfl rfl (fun _ _ _ h => h) ?_ ?_ ; rotate_left ; (· (intro w' hR ; (first | have hcells := later_cellsD ((later_moves).trans _ _ _ hacc hR) | skip) ; go_simp ; try with_reducible rfl)) ; simp only [Act.put, List.setIfInBounds_toArray, List.set_cons_zero, List.set_cons_succ]))
  refine wpO_call (later_moves) rfl rfl rfl (fun _ => by go_simp <;> rfl) ((HM.out _ _ _ _ hb0 hZ (by rw [h3.out]; omega)).mono ?_)
  rintro e w4 ⟨v4, rfl, hM, hb4⟩
  refine ⟨_, rfl, hb4, ?_⟩
  replace hacc := (later_moves).trans _ _ _ hacc (hb4)
  simp only [Act.put, List.setIfInBounds_toArray, List.set_cons_zero, List.set_cons_succ]
  replace hb0 := below_chain hb0 hb4
  obtain ⟨A5, c5, rfl⟩ := rwd_form hM
  repeat (first | (refine wpO_skip (later_moves) rfl rfl (fun _ _ _ h => h) ?_ ; simp only [Act.put, List.setIfInBounds_toArray, List.set_cons_zero, List.set_cons_succ]) | (refine wpO_light (v := ?_) (later_moves) rfl rfl (fun _ _ _ h => h) ?_ ?_ ; rotate_left ; (· (intro w' hR ; (first | have hcells := later_cellsD ((later_moves).trans _ _ _ hacc hR) | skip) ; go_simp ; try with_reducible rfl)) ; simp only [Act.put, List.setIfInBounds_toArray, List.set_cons_zero, List.set_cons_succ]))
  refine wpO_call (later_moves) rfl rfl rfl (fun _ => by go_simp <;> rfl) ((HP.out _ _ _ _ _ hM (by have := h1.out; omega)).mono ?_)
  rintro e w6 ⟨v6, rfl, hP, hb6⟩
  refine ⟨_, rfl, hb6, ?_⟩
  replace hacc := (later_moves).trans _ _ _ hacc (hb6)
  simp only [Act.put, List.setIfInBounds_toArray, List.set_cons_zero, List.set_cons_succ]
  replace hb0 := below_chain hb0 hb6
  repeat (first | (refine wpO_skip (later_moves) rfl rfl (fun _ _ _ h => h) ?_ ; simp only [Act.put, List.setIfInBounds_toArray, List.set_cons_zero, List.set_cons_succ]) | (refine wpO_light (v := ?_) (later_moves) rfl rfl (fun _ _ _ h => h) ?_ ?_ ; rotate_left ; (· (intro w' hR ; (first | have hcells := later_cellsD ((later_moves).trans _ _ _ hacc hR) | skip) ; go_simp ; try with_reducible rfl)) ; simp only [Act.put, List.setIfInBounds_toArray, List.set_cons_zero, List.set_cons_succ]))
  refine wpO_done ?_
  go_wp2
  go_ret
  exact ⟨_, rfl, hP, hb0⟩
set_option maxRecDepth 100000 in
set_option maxHeartbeats 1000000 in
theorem rCode_any (L : LayR) (v0 v1 v2 v3 v4 : Value) (w : World) (g0 : slc v0) (g1 : slc v1) (g2 : slc v2) (g3 : slc v3) (g4 : slc v4) :
    Calls Tryz.prog 44 #[.agg (layCs L), .agg #[v0, v1, v2, v3, v4]] w fun e w' => e = .returned v1 ∧ Below w.heap.size w w' := by
  obtain ⟨A0, n0, c0, rfl⟩ := g0
  obtain ⟨A1, n1, c1, rfl⟩ := g1
  obtain ⟨A2, n2, c2, rfl⟩ := g2
  obtain ⟨A3, n3, c3, rfl⟩ := g3
  obtain ⟨A4, n4, c4, rfl⟩ := g4
  unfold layCs at *
  obtain ⟨kl, kc, hb0, -⟩ := boxes2 w 39 42 #[.int .u64 (L.p : Int), .int .i64 (L.block : Int), .int .i64 (L.queries : Int), .int .i64 (L.k : Int), .int .i64 (L.n : Int), .int .i64 (L.secret : Int), .int .i64 (L.rows : Int), .int .i64 (L.a : Int), .int .i64 (L.b : Int), .int .i64 (L.b : Int), .int .i64 (L.b : Int)] #[.slice A0 n0 c0, .slice A1 n1 c1, .slice A2 n2 c2, .slice A3 n3 c3, .slice A4 n4 c4]
  go_enter Tryz.func44, Tryz.ntmps44
  go_upto_region 1 with fail
  generalize (w.alloc _).alloc _ = w2 at kl kc hb0 ⊢
  have cc := kc.cell
  have lc := kc.lt
  go_wp2
  go_ret
  exact ⟨rfl, hb0⟩
end Go.Proofs.YtakjnmojigechaaGreat
