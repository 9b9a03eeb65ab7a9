/-
  ref27.Valid.
-/
import Derived.Test.YtkaecidnkkcbaaaPrC
namespace Go.Proofs.Ytkaecidnkkcbaaa
open Go.RowKit

def bigP : Nat := 18446744069414584321
/-- Whether a proof is valid for a layout with 2^j columns. -/
def prOk (L : LayR) (j : Nat) (P : ProofR) : Bool :=
  !(decide (bigP ≤ P.root)) && (redOk P.code (L.k : Int) L.p && (redOk P.linear ((L.k + L.block - 1 : Nat) : Int) L.p && (redOk P.quad ((2 * L.k - 1 : Nat) : Int) L.p &&
    (listsOk P.cols (L.queries : Int) ((L.a + L.b + L.b + L.b + 3 : Nat) : Int) L.p && (redOk P.salts (L.queries : Int) bigP && listsOk P.paths (L.queries : Int) (j : Int) bigP)))))

set_option maxRecDepth 100000 in
set_option maxHeartbeats 4000000 in
theorem rValid27_any (L : LayR) (j : Nat) (P : ProofR) (S : PS) (w : World) (hL : LayOk L) (hn : L.n = 2 ^ j) (hj : j ≤ 10) (h : PrIn w P S) :
    Calls Try.prog 11 #[.agg (layCs L), .agg (prCs P S)] w fun e w' => e = .returned (.bool (prOk L j P)) ∧ Below w.heap.size w w' := by
  have HLen := Lib.hid (fun w => lengths_any L w hL)
  have HT := Lib.hid (fun w => rTotal_any L.p L.block L.queries L.k L.n L.secret L.rows L.a L.b L.b L.b w hL.a hL.b hL.b hL.b)
  have HD := Lib.hid (fun w => depth_any L.n j w hn hj)
  have H1 := Lib.hid (fun w' (hb : Below w.heap.size w w') => reduced_any S.A1 S.n1 S.c1 P.code (L.k : Int) L.p w' (kept_RWd _ _ _ _ hb h.code))
  have H2 := Lib.hid (fun w' (hb : Below w.heap.size w w') => reduced_any S.A2 S.n2 S.c2 P.linear ((L.k + L.block - 1 : Nat) : Int) L.p w' (kept_RWd _ _ _ _ hb h.linear))
  have H3 := Lib.hid (fun w' (hb : Below w.heap.size w w') => reduced_any S.A3 S.n3 S.c3 P.quad ((2 * L.k - 1 : Nat) : Int) L.p w' (kept_RWd _ _ _ _ hb h.quad))
  have H4 := Lib.hid (fun w' (hb : Below w.heap.size w w') => lists_any S.A4 S.n4 S.c4 P.cols (L.queries : Int) ((L.a + L.b + L.b + L.b + 3 : Nat) : Int) L.p w' (kept_RSl kept_RWd _ _ _ _ hb h.cols))
  have H5 := Lib.hid (fun w' (hb : Below w.heap.size w w') => reduced_any S.A5 S.n5 S.c5 P.salts (L.queries : Int) bigP w' (kept_RWd _ _ _ _ hb h.salts))
  have H6 := Lib.hid (fun w' (hb : Below w.heap.size w w') => lists_any S.A6 S.n6 S.c6 P.paths (L.queries : Int) (j : Int) bigP w' (kept_RSl kept_RWd _ _ _ _ hb h.paths))
  have hV : Hid (prOk L j P = (!(decide (bigP ≤ P.root)) && (redOk P.code (L.k : Int) L.p && (redOk P.linear ((L.k + L.block - 1 : Nat) : Int) L.p && (redOk P.quad ((2 * L.k - 1 : Nat) : Int) L.p &&
    (listsOk P.cols (L.queries : Int) ((L.a + L.b + L.b + L.b + 3 : Nat) : Int) L.p && (redOk P.salts (L.queries : Int) bigP && listsOk P.paths (L.queries : Int) (j : Int) bigP))))))) := rfl
  have hA := hL.a
  have hBB := hL.b
  obtain ⟨T, hTT⟩ : ∃ T, T = L.a + L.b + L.b + L.b := ⟨_, rfl⟩
  rw [← hTT] at HT H4 hV
  have hT : T ≤ 400000 := by omega
  have e3 : (T : Int) + 3 = ((T + 3 : Nat) : Int) := by omega
  have e4 : IntKind.i64.wrap ((T + 3 : Nat) : Int) = ((T + 3 : Nat) : Int) := wr_i64 _ (by omega) (by omega)
  have e5 : IntKind.i64.wrap ((T : Int) + 3) = ((T + 3 : Nat) : Int) := by rw [wr_i64 _ (by omega) (by omega)]; omega
  revert e3 e4 e5 H4 hV HLen H2 H3
  generalize T + 3 = T3
  generalize L.k + L.block - 1 = x
  generalize 2 * L.k - 1 = y
  generalize hr1 : redOk P.code (L.k : Int) L.p = b1 at *
  generalize hr2 : redOk P.linear (x : Int) L.p = b2
  generalize hr3 : redOk P.quad (y : Int) L.p = b3
  generalize hr4 : listsOk P.cols (L.queries : Int) (T3 : Int) L.p = b4
  generalize hr5 : redOk P.salts (L.queries : Int) bigP = b5 at *
  generalize hr6 : listsOk P.paths (L.queries : Int) (j : Int) bigP = b6 at *
  intro HLen H2 H3 hV H4 e3 e4 e5
  clear hr1 hr2 hr3 hr4 hr5 hr6 hL hn hj hA hBB hTT hT h
  generalize prOk L j P = res at *
  unfold layCs at HLen ⊢
  unfold prCs
  unfold bigP at *
  have hb0 : Below w.heap.size w ((w.alloc (.cells #[.int .u64 (L.p : Int), .int .i64 (L.block : Int), .int .i64 (L.queries : Int), .int .i64 (L.k : Int), .int .i64 (L.n : Int), .int .i64 (L.secret : Int), .int .i64 (L.rows : Int), .int .i64 (L.a : Int), .int .i64 (L.b : Int), .int .i64 (L.b : Int), .int .i64 (L.b : Int)] 38)).alloc (.cells #[.int .u64 (P.root : Int), .slice S.A1 S.n1 S.c1, .slice S.A2 S.n2 S.c2, .slice S.A3 S.n3 S.c3, .slice S.A4 S.n4 S.c4, .slice S.A5 S.n5 S.c5, .slice S.A6 S.n6 S.c6] 35)) := ((Below.refl _ w).alloc (Nat.le_refl _) _).alloc (by simp) _
  go_enter Try.func11, Try.ntmps11
  go_wp2_with fail
  refine (HLen.out _).mono ?_
  rintro e w1 ⟨rfl, hb⟩
  obtain ⟨k1, k2, hbw⟩ := two_boxes hb
  have k1' := k1.alloc (.cells #[.int .i64 (L.k : Int), .int .i64 (x : Int), .int .i64 (y : Int)] 71)
  have k2' := k2.alloc (.cells #[.int .i64 (L.k : Int), .int .i64 (x : Int), .int .i64 (y : Int)] 71)
  have k3' := Blk.new w1 71 #[.int .i64 (L.k : Int), .int .i64 (x : Int), .int .i64 (y : Int)]
  have hbw' := hbw.alloc hbw.size (.cells #[.int .i64 (L.k : Int), .int .i64 (x : Int), .int .i64 (y : Int)] 71)
  clear hb k1 k2 hbw hb0
  go_upto_region 2 with fail
  revert k1' k2' k3' hbw'
  generalize w1.alloc _ = w2
  generalize w1.heap.size = g
  intro k1 k2 k3 hbw
  have c1 := k1.cell
  have c2 := k2.cell
  have c3 := k3.cell
  have l1 := k1.lt
  have l2 := k2.lt
  by_cases z : 18446744069414584321 ≤ P.root
  · have d1 : decide ((18446744069414584321 : Int) ≤ (P.root : Int)) = true := decide_eq_true (by omega)
    have d2 : decide (18446744069414584321 ≤ P.root) = true := decide_eq_true z
    have HZ := Lib.hid (show res = false by rw [hV.out, d2]; rfl)
    clear z
    go_wp2_with fail
    go_ret
    exact ⟨by rw [HZ.out]; rfl, hbw⟩
  have d1 : decide ((18446744069414584321 : Int) ≤ (P.root : Int)) = false := decide_eq_false (by omega)
  have d2 : decide (18446744069414584321 ≤ P.root) = false := decide_eq_false z
  rw [d2] at hV
  clear z
  go_wp2_with fail
  refine (H1.out _ hbw).mono ?_
  rintro e w3 ⟨rfl, rfl⟩
  cases b1
  · have HZ := Lib.hid (show res = false by rw [hV.out]; rfl)
    go_wp2_with fail
    go_ret
    exact ⟨by rw [HZ.out]; rfl, hbw⟩
  go_wp2_with fail
  refine (H2.out _ hbw).mono ?_
  rintro e w3 ⟨rfl, rfl⟩
  cases b2
  · have HZ := Lib.hid (show res = false by rw [hV.out]; rfl)
    go_wp2_with fail
    go_ret
    exact ⟨by rw [HZ.out]; rfl, hbw⟩
  go_wp2_with fail
  refine (H3.out _ hbw).mono ?_
  rintro e w3 ⟨rfl, rfl⟩
  cases b3
  · have HZ := Lib.hid (show res = false by rw [hV.out]; rfl)
    go_wp2_with fail
    go_ret
    exact ⟨by rw [HZ.out]; rfl, hbw⟩
  go_wp2_with fail
  refine wpO_begin (Later) [5, 9, 15, 24, 25] [0, 1, 2, 3, 4, 7, 8, 5, 6, 9, 10, 11, 12, 13, 14, 15, 16, 17, 18, 19, 20, 21, 22, 23, 24, 25, 26, 27] (by kernel_rfl) (by kernel_rfl) ?_
  refine wpO_start (later_moves) ?_
  intro Wc hacc
  repeat (first | (refine wpO_skip (later_moves) rfl rfl (fun _ _ _ h => h) ?_ ; simp only [Act.put, List.setIfInBounds_toArray, List.set_cons_zero, List.set_cons_succ]) | (refine wpO_light (v := ?_) (later_moves) rfl rfl (fun _ _ _ h => h) ?_ ?_ ; rotate_left ; (· (intro w' hR ; (first | have hcells := later_cellsD ((later_moves).trans _ _ _ hacc hR) | skip) ; go_simp ; try with_reducible rfl)) ; simp only [Act.put, List.setIfInBounds_toArray, List.set_cons_zero, List.set_cons_succ]))
  refine wpO_call (later_moves) rfl rfl rfl (fun _ => by go_simp <;> rfl) ((HT.out _).mono ?_)
  rintro e w4 ⟨rfl, hb4⟩
  refine ⟨_, rfl, hb4, ?_⟩
  replace hacc := (later_moves).trans _ _ _ hacc (hb4)
  simp only [Act.put, List.setIfInBounds_toArray, List.set_cons_zero, List.set_cons_succ]
  repeat (first | (refine wpO_skip (later_moves) rfl rfl (fun _ _ _ h => h) ?_ ; simp only [Act.put, List.setIfInBounds_toArray, List.set_cons_zero, List.set_cons_succ]) | (refine wpO_light (v := ?_) (later_moves) rfl rfl (fun _ _ _ h => h) ?_ ?_ ; rotate_left ; (· (intro w' hR ; (first | have hcells := later_cellsD ((later_moves).trans _ _ _ hacc hR) | skip) ; go_simp ; try with_reducible rfl)) ; simp only [Act.put, List.setIfInBounds_toArray, List.set_cons_zero, List.set_cons_succ]))
  refine wpO_call (later_moves) rfl rfl rfl (fun _ => by go_simp <;> rfl) ((H4.out _ (below_chain hbw.drew hacc)).mono ?_)
  rintro e w5 ⟨rfl, rfl⟩
  refine ⟨_, rfl, later_moves.refl _, ?_⟩
  replace hacc := (later_moves).trans _ _ _ hacc (later_moves.refl _)
  simp only [Act.put, List.setIfInBounds_toArray, List.set_cons_zero, List.set_cons_succ]
  cases b4
  · have HZ := Lib.hid (show res = false by rw [hV.out]; rfl)
    repeat (first | (refine wpO_skip (later_moves) rfl rfl (fun _ _ _ h => h) ?_ ; simp only [Act.put, List.setIfInBounds_toArray, List.set_cons_zero, List.set_cons_succ]) | (refine wpO_light (v := ?_) (later_moves) rfl rfl (fun _ _ _ h => h) ?_ ?_ ; rotate_left ; (· (intro w' hR ; (first | have hcells := later_cellsD ((later_moves).trans _ _ _ hacc hR) | skip) ; go_simp ; try with_reducible rfl)) ; simp only [Act.put, List.setIfInBounds_toArray, List.set_cons_zero, List.set_cons_succ]))
    refine wpO_done ?_
    go_wp2
    go_ret
    exact ⟨by rw [HZ.out]; rfl, below_chain hbw.drew hacc⟩
  repeat (first | (refine wpO_skip (later_moves) rfl rfl (fun _ _ _ h => h) ?_ ; simp only [Act.put, List.setIfInBounds_toArray, List.set_cons_zero, List.set_cons_succ]) | (refine wpO_light (v := ?_) (later_moves) rfl rfl (fun _ _ _ h => h) ?_ ?_ ; rotate_left ; (· (intro w' hR ; (first | have hcells := later_cellsD ((later_moves).trans _ _ _ hacc hR) | skip) ; go_simp ; try with_reducible rfl)) ; simp only [Act.put, List.setIfInBounds_toArray, List.set_cons_zero, List.set_cons_succ]))
  refine wpO_call (later_moves) rfl rfl rfl (fun _ => by go_simp <;> rfl) ((H5.out _ (below_chain hbw.drew hacc)).mono ?_)
  rintro e w5 ⟨rfl, rfl⟩
  refine ⟨_, rfl, later_moves.refl _, ?_⟩
  replace hacc := (later_moves).trans _ _ _ hacc (later_moves.refl _)
  simp only [Act.put, List.setIfInBounds_toArray, List.set_cons_zero, List.set_cons_succ]
  cases b5
  · have HZ := Lib.hid (show res = false by rw [hV.out]; rfl)
    repeat (first | (refine wpO_skip (later_moves) rfl rfl (fun _ _ _ h => h) ?_ ; simp only [Act.put, List.setIfInBounds_toArray, List.set_cons_zero, List.set_cons_succ]) | (refine wpO_light (v := ?_) (later_moves) rfl rfl (fun _ _ _ h => h) ?_ ?_ ; rotate_left ; (· (intro w' hR ; (first | have hcells := later_cellsD ((later_moves).trans _ _ _ hacc hR) | skip) ; go_simp ; try with_reducible rfl)) ; simp only [Act.put, List.setIfInBounds_toArray, List.set_cons_zero, List.set_cons_succ]))
    refine wpO_done ?_
    go_wp2
    go_ret
    exact ⟨by rw [HZ.out]; rfl, below_chain hbw.drew hacc⟩
  repeat (first | (refine wpO_skip (later_moves) rfl rfl (fun _ _ _ h => h) ?_ ; simp only [Act.put, List.setIfInBounds_toArray, List.set_cons_zero, List.set_cons_succ]) | (refine wpO_light (v := ?_) (later_moves) rfl rfl (fun _ _ _ h => h) ?_ ?_ ; rotate_left ; (· (intro w' hR ; (first | have hcells := later_cellsD ((later_moves).trans _ _ _ hacc hR) | skip) ; go_simp ; try with_reducible rfl)) ; simp only [Act.put, List.setIfInBounds_toArray, List.set_cons_zero, List.set_cons_succ]))
  refine wpO_call (later_moves) rfl rfl rfl (fun _ => by go_simp <;> rfl) ((HD.out _).mono ?_)
  rintro e w5 ⟨rfl, rfl⟩
  refine ⟨_, rfl, later_moves.refl _, ?_⟩
  replace hacc := (later_moves).trans _ _ _ hacc (later_moves.refl _)
  simp only [Act.put, List.setIfInBounds_toArray, List.set_cons_zero, List.set_cons_succ]
  repeat (first | (refine wpO_skip (later_moves) rfl rfl (fun _ _ _ h => h) ?_ ; simp only [Act.put, List.setIfInBounds_toArray, List.set_cons_zero, List.set_cons_succ]) | (refine wpO_light (v := ?_) (later_moves) rfl rfl (fun _ _ _ h => h) ?_ ?_ ; rotate_left ; (· (intro w' hR ; (first | have hcells := later_cellsD ((later_moves).trans _ _ _ hacc hR) | skip) ; go_simp ; try with_reducible rfl)) ; simp only [Act.put, List.setIfInBounds_toArray, List.set_cons_zero, List.set_cons_succ]))
  refine wpO_call (later_moves) rfl rfl rfl (fun _ => by go_simp <;> rfl) ((H6.out _ (below_chain hbw.drew hacc)).mono ?_)
  rintro e w5 ⟨rfl, rfl⟩
  refine ⟨_, rfl, later_moves.refl _, ?_⟩
  replace hacc := (later_moves).trans _ _ _ hacc (later_moves.refl _)
  simp only [Act.put, List.setIfInBounds_toArray, List.set_cons_zero, List.set_cons_succ]
  have HZ := Lib.hid (show res = b6 by rw [hV.out]; rfl)
  cases b6
  · repeat (first | (refine wpO_skip (later_moves) rfl rfl (fun _ _ _ h => h) ?_ ; simp only [Act.put, List.setIfInBounds_toArray, List.set_cons_zero, List.set_cons_succ]) | (refine wpO_light (v := ?_) (later_moves) rfl rfl (fun _ _ _ h => h) ?_ ?_ ; rotate_left ; (· (intro w' hR ; (first | have hcells := later_cellsD ((later_moves).trans _ _ _ hacc hR) | skip) ; go_simp ; try with_reducible rfl)) ; simp only [Act.put, List.setIfInBounds_toArray, List.set_cons_zero, List.set_cons_succ]))
    refine wpO_done ?_
    go_wp2
    go_ret
    exact ⟨by rw [HZ.out]; rfl, below_chain hbw.drew hacc⟩
  · repeat (first | (refine wpO_skip (later_moves) rfl rfl (fun _ _ _ h => h) ?_ ; simp only [Act.put, List.setIfInBounds_toArray, List.set_cons_zero, List.set_cons_succ]) | (refine wpO_light (v := ?_) (later_moves) rfl rfl (fun _ _ _ h => h) ?_ ?_ ; rotate_left ; (· (intro w' hR ; (first | have hcells := later_cellsD ((later_moves).trans _ _ _ hacc hR) | skip) ; go_simp ; try with_reducible rfl)) ; simp only [Act.put, List.setIfInBounds_toArray, List.set_cons_zero, List.set_cons_succ]))
    refine wpO_done ?_
    go_wp2
    go_ret
    exact ⟨by rw [HZ.out]; rfl, below_chain hbw.drew hacc⟩
end Go.Proofs.Ytkaecidnkkcbaaa

