/-
  depth, levels, Lengths, Size, awake, program.
-/
import Derived.Test.YtkaecidnkkcbaaaPrA
namespace Go.Proofs.Ytkaecidnkkcbaaa
open Go.RowKit

theorem bitLen_pow {j : Nat} (hj : j < 64) : Lib.bitLen (2 ^ j) = j + 1 := by
  obtain ⟨h1, h2, h3⟩ := Lib.bitLenAux_bounds 64 (2 ^ j) (Nat.pow_lt_pow_right (by omega) hj) (Nat.ne_of_gt (Nat.pow_pos (by omega)))
  have e : Lib.bitLen (2 ^ j) = Lib.bitLenAux 64 (2 ^ j) := rfl
  rw [e]
  generalize Lib.bitLenAux 64 (2 ^ j) = k at *
  have h4 := (Nat.pow_lt_pow_iff_right (a := 2) (by omega)).1 h3
  have h5 := (Nat.pow_le_pow_iff_right (a := 2) (by omega)).1 h2
  omega
theorem wrap_pow (d : Nat) (hd : d ≤ 10) : wrap64 ((2 : Int) ^ d) = ((2 ^ d : Nat) : Int) := by
  have h : 2 ^ d ≤ 2 ^ 10 := Nat.pow_le_pow_right (by omega) hd
  have e : ((2 : Int) ^ d) = ((2 ^ d : Nat) : Int) := (Int.natCast_pow 2 d).symm
  rw [e]
  generalize 2 ^ d = x at *
  unfold wrap64
  omega
theorem pow_bound {j n : Nat} (h : n = 2 ^ j) (hn : n ≤ 1024) : j ≤ 10 := by
  rcases Nat.lt_or_ge 10 j with h1 | h1
  · have : 2 ^ 11 ≤ 2 ^ j := Nat.pow_le_pow_right (by omega) h1
    omega
  · exact h1

set_option maxRecDepth 100000 in
set_option maxHeartbeats 1000000 in
theorem levels_any (L : LayR) (j : Nat) (w : World) (hn : L.n = 2 ^ j) (hj : j ≤ 10) :
    Calls Try.prog 36 #[.agg (layCs L)] w fun e w' => e = .returned (.int .i64 (j : Int)) ∧ Below w.heap.size w w' := by
  have hN : L.n ≤ 1024 := by rw [hn]; exact Nat.pow_le_pow_right (n := 2) (by omega) hj
  have HL := Lib.hid (fun w => len_any (L.n : Int) w (by omega) (by omega))
  rw [Int.toNat_natCast, hn, bitLen_pow (by omega), ← hn] at HL
  have e1 : IntKind.u64.wrap (L.n : Int) = (L.n : Int) := wr_nat _ (by omega)
  have i1 : (j : Int) ≤ 10 := by omega
  have e2 : ((j + 1 : Nat) : Int) - 1 = (j : Int) := by omega
  unfold layCs
  clear hn
  go_enter Try.func36, Try.ntmps36
  go_wp2_with fail
  refine (HL.out _).mono ?_
  rintro e w1 ⟨rfl, rfl⟩
  go_wp2
  go_ret
  exact ⟨by simp, (Below.refl _ _).alloc (Nat.le_refl _) _⟩

set_option maxRecDepth 100000 in
set_option maxHeartbeats 1000000 in
theorem lengths_any (L : LayR) (w : World) (hL : LayOk L) :
    Calls Try.prog 24 #[.agg (layCs L)] w fun e w' => e = .returned (.agg #[.int .i64 (L.k : Int), .int .i64 ((L.k + L.block - 1 : Nat) : Int), .int .i64 ((2 * L.k - 1 : Nat) : Int)]) ∧ Below w.heap.size w w' := by
  have h1 := hL.b1
  have h2 := hL.b2
  have h3 := hL.q1
  have h4 := hL.q2
  have h5 := hL.k
  have e1 : (L.k : Int) + (L.block : Int) - 1 = ((L.k + L.block - 1 : Nat) : Int) := by omega
  have e2 : (2 : Int) * (L.k : Int) - 1 = ((2 * L.k - 1 : Nat) : Int) := by omega
  have i1 : (L.k : Int) ≤ 320 := by omega
  have i2 : (1 : Int) ≤ (L.k : Int) := by omega
  have i3 : (L.block : Int) ≤ 256 := by omega
  revert e1 e2
  generalize L.k + L.block - 1 = x
  generalize 2 * L.k - 1 = y
  intro e1 e2
  clear h1 h2 h3 h4 h5 hL
  unfold layCs
  go_enter Try.func24, Try.ntmps24
  go_wp2
  exact bodyPost_ret (v := .agg #[.int .i64 (L.k : Int), .int .i64 (x : Int), .int .i64 (y : Int)]) (by simp [results, Try.results24, go_sem]) rfl ⟨rfl, ((Below.refl _ _).alloc (Nat.le_refl _) _).alloc (by simp) _⟩

set_option maxRecDepth 100000 in
set_option maxHeartbeats 1000000 in
theorem program_any (L : LayR) (w : World) :
    Calls Try.prog 10 #[.agg (layCs L)] w fun e w' => e = .returned (.agg (layCs L)) ∧ Below w.heap.size w w' := by
  unfold layCs
  go_enter Try.func10, Try.ntmps10
  go_wp2
  exact bodyPost_ret (v := .agg (layCs L)) (by simp [results, Try.results10, go_sem, layCs]) rfl ⟨by simp [layCs], ((Below.refl _ _).alloc (Nat.le_refl _) _).alloc (by simp) _⟩

def szOf (L : LayR) (j : Nat) : Nat := 8 * (1 + (L.k + (L.k + L.block - 1) + (2 * L.k - 1)) + L.queries * (L.a + L.b + L.b + L.b + 3 + 1 + j))

set_option maxRecDepth 100000 in
set_option maxHeartbeats 1000000 in
theorem depth_any (n j : Nat) (w : World) (hn : n = 2 ^ j) (hj : j ≤ 10) :
    Calls Try.prog 27 #[.int .i64 (n : Int)] w fun e w' => e = .returned (.int .i64 (j : Int)) ∧ w = w' := by
  have hN : n ≤ 1024 := by rw [hn]; exact Nat.pow_le_pow_right (n := 2) (by omega) hj
  go_enter Try.func27, Try.ntmps27
  go_wp2_with fail
  go_loop [3] (fun i => ∃ d : Nat, d ≤ j ∧ i = .int .i64 (d : Int)) (fun i => j - (intOf i).toNat)
  case atStart => exact ⟨0, Nat.zero_le _, rfl⟩
  case round =>
    obtain ⟨d, hd, rfl⟩ := hrel
    have HN := Lib.hid hn
    clear hn
    go_wp2_with fail
    · rename_i h
      have hlt : d < j := by
        rw [wrap_pow d (by omega), HN.out] at h
        exact (Nat.pow_lt_pow_iff_right (a := 2) (by omega)).1 (by omega)
      go_round
      case rel => exact ⟨d + 1, hlt, by go_num⟩
      case measure => simp [intOf]; omega
    · have h : (n : Int) ≤ wrap64 (2 ^ d) := by assumption
      have hge : ¬ d < j := fun hlt => by
        have := (Nat.pow_lt_pow_iff_right (a := 2) (by omega)).2 hlt
        rw [wrap_pow d (by omega), HN.out] at h
        omega
      have e : d = j := by omega
      subst e
      go_ret
      exact ⟨rfl, rfl⟩

set_option maxRecDepth 100000 in
set_option maxHeartbeats 1000000 in
theorem size_any (L : LayR) (j : Nat) (w : World) (hL : LayOk L) (hn : L.n = 2 ^ j) (hj : j ≤ 10) :
    Calls Try.prog 15 #[.agg (layCs L)] w fun e w' => e = .returned (.int .i64 (szOf L j : Nat)) ∧ Below w.heap.size w w' := by
  have HL := Lib.hid (fun w => levels_any L j w hn hj)
  have HT := Lib.hid (fun w => pTotal_any L.p L.block L.queries L.k L.n L.secret L.rows L.a L.b L.b L.b w hL.a hL.b hL.b hL.b)
  have h1 := hL.b1
  have h2 := hL.b2
  have h3 := hL.q1
  have h4 := hL.q2
  have h5 := hL.k
  have h6 := hL.a
  have h7 := hL.b
  have i1 : (L.k : Int) ≤ 320 := by omega
  have i2 : (1 : Int) ≤ (L.k : Int) := by omega
  have i3 : (L.block : Int) ≤ 256 := by omega
  have i4 : (j : Int) ≤ 10 := by omega
  have hS : szOf L j = 8 * (1 + (L.k + (L.k + L.block - 1) + (2 * L.k - 1)) + L.queries * (L.a + L.b + L.b + L.b + 3 + 1 + j)) := rfl
  have hT : L.a + L.b + L.b + L.b ≤ 400000 := by omega
  obtain ⟨T, hTT⟩ : ∃ T, T = L.a + L.b + L.b + L.b := ⟨_, rfl⟩
  rw [← hTT] at HT hS hT
  obtain ⟨T2, hT2⟩ : ∃ T2, T2 = T + 3 + 1 + j := ⟨_, rfl⟩
  rw [← hT2] at hS
  have hM : L.queries * T2 ≤ 64 * T2 := Nat.mul_le_mul_right _ h4
  obtain ⟨M, hMM⟩ : ∃ M, M = L.queries * T2 := ⟨_, rfl⟩
  rw [← hMM] at hS hM
  obtain ⟨Z, hZ⟩ : ∃ Z, Z = szOf L j := ⟨_, rfl⟩
  rw [← hZ] at hS
  rw [← hZ]
  obtain ⟨X, hX⟩ : ∃ X, X = L.k + (L.k + L.block - 1) + (2 * L.k - 1) := ⟨_, rfl⟩
  have e1 : (L.k : Int) + ((L.k : Int) + (L.block : Int) - 1) + (2 * (L.k : Int) - 1) = (X : Int) := by omega
  have e2 : (T : Int) + 3 + 1 + (j : Int) = (T2 : Int) := by omega
  have e3 : (L.queries : Int) * (T2 : Int) = (M : Int) := by rw [hMM]; exact (Int.natCast_mul _ _).symm
  have e4 : (8 : Int) * (1 + (X : Int) + (M : Int)) = (Z : Int) := by omega
  have e5 : IntKind.i64.wrap ((T : Int) + 3) = (T : Int) + 3 := wr_i64 _ (by omega) (by omega)
  have e6 : IntKind.i64.wrap ((T : Int) + 3 + 1) = (T : Int) + 3 + 1 := wr_i64 _ (by omega) (by omega)
  have e7 : IntKind.i64.wrap (T2 : Int) = (T2 : Int) := wr_i64 _ (by omega) (by omega)
  have i5 : (T2 : Int) ≤ 400014 := by omega
  have i6 : (M : Int) ≤ 25600896 := by omega
  have i7 : (X : Int) ≤ 2000 := by omega
  have i8 : (T : Int) ≤ 400000 := by omega
  clear h1 h2 h3 h4 h5 h6 h7 hS hT hTT hT2 hM hMM hZ hX hL hn hj
  unfold layCs at HL ⊢
  have hb0 : Below w.heap.size w (w.alloc (.cells #[.int .u64 (L.p : Int), .int .i64 (L.block : Int), .int .i64 (L.queries : Int), .int .i64 (L.k : Int), .int .i64 (L.n : Int), .int .i64 (L.secret : Int), .int .i64 (L.rows : Int), .int .i64 (L.a : Int), .int .i64 (L.b : Int), .int .i64 (L.b : Int), .int .i64 (L.b : Int)] 44)) := (Below.refl _ _).alloc (Nat.le_refl _) _
  have hB := Blk.new w 44 #[.int .u64 (L.p : Int), .int .i64 (L.block : Int), .int .i64 (L.queries : Int), .int .i64 (L.k : Int), .int .i64 (L.n : Int), .int .i64 (L.secret : Int), .int .i64 (L.rows : Int), .int .i64 (L.a : Int), .int .i64 (L.b : Int), .int .i64 (L.b : Int), .int .i64 (L.b : Int)]
  go_enter Try.func15, Try.ntmps15
  go_wp2_with fail
  revert hb0 hB
  generalize w.alloc _ = w0
  intro hb0 hB
  obtain ⟨c0, f0⟩ := hB.cells'
  have l0 := hB.lt
  refine wpO_begin (Later) [1, 5] [0, 4, 1, 2, 3, 5, 6, 7] (by kernel_rfl) (by kernel_rfl) ?_
  refine wpO_start (later_moves) ?_
  intro Wc hacc
  repeat (first | (refine wpO_skip (later_moves) rfl rfl (fun _ _ _ h => h) ?_ ; simp only [Act.put, List.setIfInBounds_toArray, List.set_cons_zero, List.set_cons_succ]) | (refine wpO_light (v := ?_) (later_moves) rfl rfl (fun _ _ _ h => h) ?_ ?_ ; rotate_left ; (· (intro w' hR ; (first | have hcells := later_cellsD ((later_moves).trans _ _ _ hacc hR) | skip) ; go_simp ; try with_reducible rfl)) ; simp only [Act.put, List.setIfInBounds_toArray, List.set_cons_zero, List.set_cons_succ]))
  refine wpO_call (later_moves) rfl rfl rfl (fun _ => by go_simp <;> rfl) ((HT.out _).mono ?_)
  rintro e w1 ⟨rfl, hb1⟩
  refine ⟨_, rfl, hb1, ?_⟩
  replace hacc := (later_moves).trans _ _ _ hacc (hb1)
  simp only [Act.put, List.setIfInBounds_toArray, List.set_cons_zero, List.set_cons_succ]
  repeat (first | (refine wpO_skip (later_moves) rfl rfl (fun _ _ _ h => h) ?_ ; simp only [Act.put, List.setIfInBounds_toArray, List.set_cons_zero, List.set_cons_succ]) | (refine wpO_light (v := ?_) (later_moves) rfl rfl (fun _ _ _ h => h) ?_ ?_ ; rotate_left ; (· (intro w' hR ; (first | have hcells := later_cellsD ((later_moves).trans _ _ _ hacc hR) | skip) ; go_simp ; try with_reducible rfl)) ; simp only [Act.put, List.setIfInBounds_toArray, List.set_cons_zero, List.set_cons_succ]))
  refine wpO_call (later_moves) rfl rfl rfl (fun _ => by go_simp <;> rfl) ((HL.out _).mono ?_)
  rintro e w2 ⟨rfl, hb2⟩
  refine ⟨_, rfl, hb2, ?_⟩
  replace hacc := (later_moves).trans _ _ _ hacc (hb2)
  simp only [Act.put, List.setIfInBounds_toArray, List.set_cons_zero, List.set_cons_succ]
  repeat (first | (refine wpO_skip (later_moves) rfl rfl (fun _ _ _ h => h) ?_ ; simp only [Act.put, List.setIfInBounds_toArray, List.set_cons_zero, List.set_cons_succ]) | (refine wpO_light (v := ?_) (later_moves) rfl rfl (fun _ _ _ h => h) ?_ ?_ ; rotate_left ; (· (intro w' hR ; (first | have hcells := later_cellsD ((later_moves).trans _ _ _ hacc hR) | skip) ; go_simp ; try with_reducible rfl)) ; simp only [Act.put, List.setIfInBounds_toArray, List.set_cons_zero, List.set_cons_succ]))
  refine wpO_done ?_
  have hB2 := hB.drew.below hacc hB.lt
  clear c0 f0
  obtain ⟨c0, f0⟩ := hB2.cells'
  go_wp2
  go_ret
  exact ⟨rfl, below_chain hb0.drew hacc⟩

set_option maxRecDepth 100000 in
set_option maxHeartbeats 1000000 in
theorem awake_any (w : World) : Calls Try.prog 7 #[] w fun e w' => e = .returned (.bool true) ∧ Below w.heap.size w w' := by
  have HS := Lib.hid (size_any ⟨97, 2, 2, 4, 8, 3, 1, 2, 1⟩ 3 w ⟨rfl, by decide, by decide, by decide, by decide, rfl, ⟨3, rfl⟩, by decide, by decide, by decide, by decide, by decide⟩ rfl (by decide))
  unfold layCs at HS
  simp only at HS
  go_enter Try.func7, Try.ntmps7
  go_wp2_with fail
  refine HS.out.mono ?_
  rintro e w1 ⟨rfl, hb⟩
  go_wp2
  go_ret
  exact ⟨rfl, hb⟩
end Go.Proofs.Ytkaecidnkkcbaaa

