/-
  ref27.Same of two proofs that are the same.
-/
import Derived.Test.YtkaecidnkkcbaaaPrJ
namespace Go.Proofs.Ytkaecidnkkcbaaa
open Go.RowKit

theorem nums_lt {w : World} {P : ProofR} {S : PS} (h : PrIn w P S) : ∀ x ∈ numsOf P, x < 18446744073709551616 := by
  have hc : ∀ {A : Option Addr} {n c : Nat} {ls : List (List Nat)}, RSl 1 RWd w [.slice A n c] ls → ∀ l ∈ ls, ∀ x ∈ l, x < 18446744073709551616 := fun hh l hl x hx => by
    obtain ⟨i, hi, rfl⟩ := List.getElem_of_mem hl
    obtain ⟨b, q, A1, n1, c1, -, -, -, hr⟩ := lists_get (lists_open hh).2.2.2 hi
    exact (word_at hr).2.2.2.1 x hx
  intro x hx
  simp only [numsOf, List.mem_append, List.mem_singleton, List.mem_flatten] at hx
  rcases hx with (((((rfl | hx) | hx) | hx) | ⟨l, hl, hx⟩) | hx) | ⟨l, hl, hx⟩
  · exact h.root
  · exact (word_at h.code).2.2.2.1 x hx
  · exact (word_at h.linear).2.2.2.1 x hx
  · exact (word_at h.quad).2.2.2.1 x hx
  · exact hc h.cols l hl x hx
  · exact (word_at h.salts).2.2.2.1 x hx
  · exact hc h.paths l hl x hx

set_option linter.unusedSimpArgs false in
set_option maxRecDepth 100000 in
set_option maxHeartbeats 2000000 in
theorem same27_any (P : ProofR) (S S' : PS) (w : World) (hin : PrIn w P S) (hin' : PrIn w P S') (hlen : (numsOf P).length ≤ 1000000) :
    Calls Try.prog 14 #[.agg (prCs P S), .agg (prCs P S')] w fun e w' => e = .returned (.bool true) ∧ Below w.heap.size w w' := by
  have En4 := Lib.hid (lists_open hin.cols).1
  have En6 := Lib.hid (lists_open hin.paths).1
  have Fn4 := Lib.hid (lists_open hin'.cols).1
  have Fn6 := Lib.hid (lists_open hin'.paths).1
  have m4 := max_int (lists_open hin.cols).2.1 (lists_open hin.cols).2.2.1
  have m6 := max_int (lists_open hin.paths).2.1 (lists_open hin.paths).2.2.1
  have HLT := Lib.hid (nums_lt hin)
  have d1 : ((S.n4 : Int) != (S'.n4 : Int)) = false := by rw [bne_eq_false_iff_eq, En4.out, Fn4.out]
  have d2 : ((S.n6 : Int) != (S'.n6 : Int)) = false := by rw [bne_eq_false_iff_eq, En6.out, Fn6.out]
  have d3 : ((S.n1 : Int) != (S'.n1 : Int)) = false := by rw [bne_eq_false_iff_eq, (word_at hin.code).1, (word_at hin'.code).1]
  have d4 : ((S.n2 : Int) != (S'.n2 : Int)) = false := by rw [bne_eq_false_iff_eq, (word_at hin.linear).1, (word_at hin'.linear).1]
  have d5 : ((S.n3 : Int) != (S'.n3 : Int)) = false := by rw [bne_eq_false_iff_eq, (word_at hin.quad).1, (word_at hin'.quad).1]
  have d6 : ((S.n5 : Int) != (S'.n5 : Int)) = false := by rw [bne_eq_false_iff_eq, (word_at hin.salts).1, (word_at hin'.salts).1]
  have hb0 : Below w.heap.size w ((w.alloc (.cells (prCs P S) 35)).alloc (.cells (prCs P S') 35)) := ((Below.refl _ w).alloc (Nat.le_refl _) _).alloc (by simp) _
  obtain ⟨k1, k2, -⟩ := two_boxes (Below.refl ((w.alloc (.cells (prCs P S) 35)).alloc (.cells (prCs P S') 35)).heap.size _)
  have hin0 := prIn_below hin hb0
  have hin0' := prIn_below hin' hb0
  unfold prCs at *
  go_enter Try.func14, Try.ntmps14
  go_wp2_with fail
  revert hb0 k1 k2 hin0 hin0'
  generalize (w.alloc _).alloc _ = w0
  intro hb0 k1 k2 hin0 hin0'
  have ca := k1.cell
  have cb := k2.cell
  have l1 := k1.lt
  have l2 := k2.lt
  clear k1 k2 d3 d4 d5 d6
  go_loopw [5] (fun i wr => ∃ k kk : Nat, k ≤ S.n4 ∧ i = .int .i64 (k : Int) ∧ wr = w0.drewN kk) (fun i _ => S.n4 - (intOf i).toNat)
  case atStart => exact ⟨0, 0, Nat.zero_le _, rfl, rfl⟩
  case round =>
    obtain ⟨k, kk, hk, rfl, rfl⟩ := hrel
    by_cases hlt : k < S.n4
    · have hlt2 : k < P.cols.length := by rw [← En4.out]; exact hlt
      obtain ⟨b, q, A1, n1, c1, hA, hbl, hc, hr⟩ := lists_get (lists_open hin0.cols).2.2.2 hlt2
      obtain ⟨b', q', A1', n1', c1', hA', hbl', hc', hr'⟩ := lists_get (lists_open hin0'.cols).2.2.2 hlt2
      have e1 := (word_at hr).1
      have e2 := (word_at hr').1
      have d0 : ((n1 : Int) != (n1' : Int)) = false := by rw [bne_eq_false_iff_eq]; omega
      have g1 : (0 : Int) ≤ (k : Int) := by omega
      have g2 : (k : Int) < (S.n4 : Int) := by omega
      have g3 : (k : Int) < (S'.n4 : Int) := by have := Fn4.out; have := En4.out; omega
      rw [hA] at ca
      rw [hA'] at cb
      clear e1 e2 hr hr' hA hA'
      go_wp2_with fail
      go_quiet (fail)
      go_wp2
      go_roundw
      case rel => exact ⟨k + 1, _, by omega, by go_num, rfl⟩
      case measure => simp [intOf]; omega
    · clear hk
      go_wp2_with fail
      go_loopw [6] (fun i wr => ∃ k kk : Nat, k ≤ S.n6 ∧ i = .int .i64 (k : Int) ∧ wr = w0.drewN kk) (fun i _ => S.n6 - (intOf i).toNat)
      case atStart => exact ⟨0, kk, Nat.zero_le _, rfl, rfl⟩
      case round =>
        obtain ⟨k, kk, hk, rfl, rfl⟩ := hrel
        by_cases hlt : k < S.n6
        · have hlt2 : k < P.paths.length := by rw [← En6.out]; exact hlt
          obtain ⟨b, q, A1, n1, c1, hA, hbl, hc, hr⟩ := lists_get (lists_open hin0.paths).2.2.2 hlt2
          obtain ⟨b', q', A1', n1', c1', hA', hbl', hc', hr'⟩ := lists_get (lists_open hin0'.paths).2.2.2 hlt2
          have e1 := (word_at hr).1
          have e2 := (word_at hr').1
          have d0 : ((n1 : Int) != (n1' : Int)) = false := by rw [bne_eq_false_iff_eq]; omega
          have g1 : (0 : Int) ≤ (k : Int) := by omega
          have g2 : (k : Int) < (S.n6 : Int) := by omega
          have g3 : (k : Int) < (S'.n6 : Int) := by have := Fn6.out; have := En6.out; omega
          rw [hA] at ca
          rw [hA'] at cb
          clear e1 e2 hr hr' hA hA'
          go_wp2_with fail
          go_quiet (fail)
          go_wp2
          go_roundw
          case rel => exact ⟨k + 1, _, by omega, by go_num, rfl⟩
          case measure => simp [intOf]; omega
        · clear hk
          go_wp2_with fail
          have hbX : Below w.heap.size w (w0.drewN kk) := below_drewN' hb0 kk
          have hinX := prIn_below hin hbX
          have hinX' := prIn_below hin' hbX
          have caX : ∀ i, (w0.drewN kk).cell? ⟨w.heap.size, i, none⟩ = _ := ca
          have cbX : ∀ i, (w0.drewN kk).cell? ⟨w.heap.size + 1, i, none⟩ = _ := cb
          have la : w.heap.size < (w0.drewN kk).heap.size := l1
          have lb : w.heap.size + 1 < (w0.drewN kk).heap.size := l2
          clear ca cb hb0 hin0 hin0' l1 l2
          revert hbX hinX hinX' caX cbX la lb
          generalize w0.drewN kk = w5
          intro hbX hinX hinX' caX cbX la lb
          refine wpO_begin (Later) [1, 3, 4] [0, 2, 1, 3, 4, 5] (by kernel_rfl) (by kernel_rfl) ?_
          refine wpO_start (later_moves) ?_
          intro Wc hacc
          repeat (first | (refine wpO_skip (later_moves) rfl rfl (fun _ _ _ h => h) ?_ ; simp only [Act.put, List.setIfInBounds_toArray, List.set_cons_zero, List.set_cons_succ]) | (refine wpO_light (v := ?_) (later_moves) rfl rfl (fun _ _ _ h => h) ?_ ?_ ; rotate_left ; (· (intro w' hR ; (first | have hcells := later_cellsD ((later_moves).trans _ _ _ hacc hR) | skip) ; go_simp ; try with_reducible rfl)) ; simp only [Act.put, List.setIfInBounds_toArray, List.set_cons_zero, List.set_cons_succ]))
          refine wpO_call (later_moves) rfl rfl rfl (fun _ => by go_simp <;> rfl) ((numbers_any P S _ (prIn_below hinX (below_chain (Below.refl _ w5).drew hacc)) hlen).mono ?_)
          rintro e w6 ⟨v1, m1, rfl, hown1, hb6⟩
          refine ⟨_, rfl, hb6, ?_⟩
          replace hacc := (later_moves).trans _ _ _ hacc (hb6)
          simp only [Act.put, List.setIfInBounds_toArray, List.set_cons_zero, List.set_cons_succ]
          obtain ⟨A1, c1, rfl, hnc1, hmc1, hrd1, -⟩ := own_form hown1
          have hr1 : RWd w6 [.slice A1 m1 c1] (numsOf P) := ⟨_, _, _, rfl, hnc1, hmc1, hrd1, HLT.out⟩
          clear hown1 hnc1 hmc1 hrd1
          repeat (first | (refine wpO_skip (later_moves) rfl rfl (fun _ _ _ h => h) ?_ ; simp only [Act.put, List.setIfInBounds_toArray, List.set_cons_zero, List.set_cons_succ]) | (refine wpO_light (v := ?_) (later_moves) rfl rfl (fun _ _ _ h => h) ?_ ?_ ; rotate_left ; (· (intro w' hR ; (first | have hcells := later_cellsD ((later_moves).trans _ _ _ hacc hR) | skip) ; go_simp ; try with_reducible rfl)) ; simp only [Act.put, List.setIfInBounds_toArray, List.set_cons_zero, List.set_cons_succ]))
          refine wpO_call (later_moves) rfl rfl rfl (fun _ => by go_simp <;> rfl) ((numbers_any P S' _ (prIn_below hinX' (below_chain (Below.refl _ w5).drew hacc)) hlen).mono ?_)
          rintro e w7 ⟨v2, m2, rfl, hown2, hb7⟩
          refine ⟨_, rfl, hb7, ?_⟩
          replace hacc := (later_moves).trans _ _ _ hacc (hb7)
          simp only [Act.put, List.setIfInBounds_toArray, List.set_cons_zero, List.set_cons_succ]
          obtain ⟨A2, c2, rfl, hnc2, hmc2, hrd2, -⟩ := own_form hown2
          have hr2 : RWd w7 [.slice A2 m2 c2] (numsOf P) := ⟨_, _, _, rfl, hnc2, hmc2, hrd2, HLT.out⟩
          replace hr1 := kept_RWd _ _ _ _ hb7 hr1
          clear hown2 hnc2 hmc2 hrd2
          have HSm := Lib.hid (same10_any A1 A2 m1 c1 m2 c2 (numsOf P) (numsOf P) w7 hr1 hr2)
          rw [decide_eq_true (rfl : numsOf P = numsOf P)] at HSm
          repeat (first | (refine wpO_skip (later_moves) rfl rfl (fun _ _ _ h => h) ?_ ; simp only [Act.put, List.setIfInBounds_toArray, List.set_cons_zero, List.set_cons_succ]) | (refine wpO_light (v := ?_) (later_moves) rfl rfl (fun _ _ _ h => h) ?_ ?_ ; rotate_left ; (· (intro w' hR ; (first | have hcells := later_cellsD ((later_moves).trans _ _ _ hacc hR) | skip) ; go_simp ; try with_reducible rfl)) ; simp only [Act.put, List.setIfInBounds_toArray, List.set_cons_zero, List.set_cons_succ]))
          refine wpO_call (later_moves) rfl rfl rfl (fun _ => by go_simp <;> rfl) ((HSm.out).mono ?_)
          rintro e w8 ⟨rfl, kz, rfl⟩
          refine ⟨_, rfl, below_drewN' (Below.refl _ _) kz, ?_⟩
          replace hacc := (later_moves).trans _ _ _ hacc (below_drewN' (Below.refl _ _) kz)
          simp only [Act.put, List.setIfInBounds_toArray, List.set_cons_zero, List.set_cons_succ]
          repeat (first | (refine wpO_skip (later_moves) rfl rfl (fun _ _ _ h => h) ?_ ; simp only [Act.put, List.setIfInBounds_toArray, List.set_cons_zero, List.set_cons_succ]) | (refine wpO_light (v := ?_) (later_moves) rfl rfl (fun _ _ _ h => h) ?_ ?_ ; rotate_left ; (· (intro w' hR ; (first | have hcells := later_cellsD ((later_moves).trans _ _ _ hacc hR) | skip) ; go_simp ; try with_reducible rfl)) ; simp only [Act.put, List.setIfInBounds_toArray, List.set_cons_zero, List.set_cons_succ]))
          refine wpO_done ?_
          go_wp2
          go_ret
          exact ⟨rfl, below_chain hbX.drew hacc⟩
end Go.Proofs.Ytkaecidnkkcbaaa

