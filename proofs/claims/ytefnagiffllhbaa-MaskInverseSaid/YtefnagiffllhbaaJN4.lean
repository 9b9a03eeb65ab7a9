/-
  The document's side: ref19.Assignment; ref24.up.
-/
import Derived.Test.YtefnagiffllhbaaJN3
import Derived.Test.YtefnagiffllhbaaJN1
import Derived.Deep.QuietTactic
import Derived.BigQuiet
import Derived.Test.YtefnagiffllhbaaJN2

/- FldC -/
namespace Go.Proofs.Ytefnagiffllhbaa
open Go.RowKit

set_option maxRecDepth 100000 in
set_option maxHeartbeats 400000 in
theorem fMul_any (p a b : Nat) (w : World) (hp : okP p = true) :
    Calls Try.prog 74 #[fv p, .int .u64 a, .int .u64 b] w fun e w' => e = .returned (.int .u64 ((a * b % p : Nat) : Int)) ∧ Below w.heap.size w w' := by
  have hpp : 0 < p := by have := okP_lt hp; omega
  have HV := Lib.hid (fun w => fValid_any p w hp)
  have HA := Lib.hid (fun w => fReduced_any p a w hpp)
  have HB := Lib.hid (fun w => fReduced_any p b w hpp)
  have HS := Lib.hid (fun w => fmul_any p (a % p) (b % p) w hp (Nat.mod_lt _ hpp) (Nat.mod_lt _ hpp))
  rw [← Nat.mul_mod] at HS
  clear hp hpp
  generalize a * b % p = r at *
  generalize a % p = x at *
  generalize b % p = y at *
  unfold fv at *
  have hb0 : Below w.heap.size w (w.alloc (.cells #[.int .u64 (p : Int)] 88)) := (Below.refl _ _).alloc (Nat.le_refl _) _
  have kf := Blk.new w 88 #[.int .u64 (p : Int)]
  go_enter Try.func74, Try.ntmps74
  go_wp2_with fail
  refine (HV.out _).mono ?_
  rintro e' w1 ⟨rfl, hb1⟩
  replace kf := kf.below hb1 kf.lt
  replace hb0 := below_chain hb0 hb1
  clear hb1
  have cf := kf.cell
  have lf := kf.lt
  go_wp2_with fail
  refine wpGO_begin (Later) (later_moves) [] [] [0, 1, 2, 3, 4, 5, 6, 7, 8] (by kernel_rfl) (by kernel_rfl) ?_
  refine wpGO_start (later_moves) ?_
  intro Wc hacc
  repeat (first | (refine wpGO_skip (later_moves) rfl rfl rfl rfl (fun _ _ _ h => h) ?_ ; simp only [Act.put, List.setIfInBounds_toArray, List.set_cons_zero, List.set_cons_succ]) | (refine wpGO_light (v := ?_) (later_moves) rfl rfl rfl rfl (fun _ _ _ h => h) ?_ ?_ ; rotate_left ; (· (intro w' hR ; (first | have hcells := later_cellsD ((later_moves).trans _ _ _ hacc hR) | skip) ; go_simp ; try with_reducible rfl)) ; simp only [Act.put, List.setIfInBounds_toArray, List.set_cons_zero, List.set_cons_succ]))
  refine wpGO_call (later_moves) rfl rfl rfl rfl (fun _ _ _ h => h) (fun _ => by go_simp <;> rfl) (fun w' hR => HA.out _) ?_
  simp only [Act.put, List.setIfInBounds_toArray, List.set_cons_zero, List.set_cons_succ]
  repeat (first | (refine wpGO_skip (later_moves) rfl rfl rfl rfl (fun _ _ _ h => h) ?_ ; simp only [Act.put, List.setIfInBounds_toArray, List.set_cons_zero, List.set_cons_succ]) | (refine wpGO_light (v := ?_) (later_moves) rfl rfl rfl rfl (fun _ _ _ h => h) ?_ ?_ ; rotate_left ; (· (intro w' hR ; (first | have hcells := later_cellsD ((later_moves).trans _ _ _ hacc hR) | skip) ; go_simp ; try with_reducible rfl)) ; simp only [Act.put, List.setIfInBounds_toArray, List.set_cons_zero, List.set_cons_succ]))
  refine wpGO_call (later_moves) rfl rfl rfl rfl (fun _ _ _ h => h) (fun _ => by go_simp <;> rfl) (fun w' hR => HB.out _) ?_
  simp only [Act.put, List.setIfInBounds_toArray, List.set_cons_zero, List.set_cons_succ]
  repeat (first | (refine wpGO_skip (later_moves) rfl rfl rfl rfl (fun _ _ _ h => h) ?_ ; simp only [Act.put, List.setIfInBounds_toArray, List.set_cons_zero, List.set_cons_succ]) | (refine wpGO_light (v := ?_) (later_moves) rfl rfl rfl rfl (fun _ _ _ h => h) ?_ ?_ ; rotate_left ; (· (intro w' hR ; (first | have hcells := later_cellsD ((later_moves).trans _ _ _ hacc hR) | skip) ; go_simp ; try with_reducible rfl)) ; simp only [Act.put, List.setIfInBounds_toArray, List.set_cons_zero, List.set_cons_succ]))
  refine wpGO_call (later_moves) rfl rfl rfl rfl (fun _ _ _ h => h) (fun _ => by go_simp <;> rfl) (fun w' hR => HS.out _) ?_
  simp only [Act.put, List.setIfInBounds_toArray, List.set_cons_zero, List.set_cons_succ]
  repeat (first | (refine wpGO_skip (later_moves) rfl rfl rfl rfl (fun _ _ _ h => h) ?_ ; simp only [Act.put, List.setIfInBounds_toArray, List.set_cons_zero, List.set_cons_succ]) | (refine wpGO_light (v := ?_) (later_moves) rfl rfl rfl rfl (fun _ _ _ h => h) ?_ ?_ ; rotate_left ; (· (intro w' hR ; (first | have hcells := later_cellsD ((later_moves).trans _ _ _ hacc hR) | skip) ; go_simp ; try with_reducible rfl)) ; simp only [Act.put, List.setIfInBounds_toArray, List.set_cons_zero, List.set_cons_succ]))
  refine wpGO_done rfl ?_
  intro wd hRd
  replace hacc := (later_moves).trans _ _ _ hacc hRd
  clear hRd
  go_wp2
  go_ret
  exact ⟨rfl, below_chain hb0.drew hacc⟩

set_option maxRecDepth 100000 in
set_option maxHeartbeats 400000 in
theorem fPow_any (p a n : Nat) (w : World) (hp : okP p = true) (hn : n < 18446744073709551616) :
    Calls Try.prog 44 #[fv p, .int .u64 a, .int .u64 n] w fun e w' => e = .returned (.int .u64 ((a ^ n % p : Nat) : Int)) ∧ Below w.heap.size w w' := by
  have hpp : 0 < p := by have := okP_lt hp; omega
  have HV := Lib.hid (fun w => fValid_any p w hp)
  have HA := Lib.hid (fun w => fReduced_any p a w hpp)
  have HS := Lib.hid (fun w => fpow_any p (a % p) n w hp (Nat.mod_lt _ hpp) hn)
  rw [← Nat.pow_mod] at HS
  clear hp hpp hn
  generalize a ^ n % p = r at *
  generalize a % p = x at *
  unfold fv at *
  have hb0 : Below w.heap.size w (w.alloc (.cells #[.int .u64 (p : Int)] 88)) := (Below.refl _ _).alloc (Nat.le_refl _) _
  have kf := Blk.new w 88 #[.int .u64 (p : Int)]
  go_enter Try.func44, Try.ntmps44
  go_wp2_with fail
  refine (HV.out _).mono ?_
  rintro e' w1 ⟨rfl, hb1⟩
  replace kf := kf.below hb1 kf.lt
  replace hb0 := below_chain hb0 hb1
  clear hb1
  have cf := kf.cell
  have lf := kf.lt
  go_wp2_with fail
  refine wpGO_begin (Later) (later_moves) [] [] [0, 1, 2, 3, 4, 5, 6] (by kernel_rfl) (by kernel_rfl) ?_
  refine wpGO_start (later_moves) ?_
  intro Wc hacc
  repeat (first | (refine wpGO_skip (later_moves) rfl rfl rfl rfl (fun _ _ _ h => h) ?_ ; simp only [Act.put, List.setIfInBounds_toArray, List.set_cons_zero, List.set_cons_succ]) | (refine wpGO_light (v := ?_) (later_moves) rfl rfl rfl rfl (fun _ _ _ h => h) ?_ ?_ ; rotate_left ; (· (intro w' hR ; (first | have hcells := later_cellsD ((later_moves).trans _ _ _ hacc hR) | skip) ; go_simp ; try with_reducible rfl)) ; simp only [Act.put, List.setIfInBounds_toArray, List.set_cons_zero, List.set_cons_succ]))
  refine wpGO_call (later_moves) rfl rfl rfl rfl (fun _ _ _ h => h) (fun _ => by go_simp <;> rfl) (fun w' hR => HA.out _) ?_
  simp only [Act.put, List.setIfInBounds_toArray, List.set_cons_zero, List.set_cons_succ]
  repeat (first | (refine wpGO_skip (later_moves) rfl rfl rfl rfl (fun _ _ _ h => h) ?_ ; simp only [Act.put, List.setIfInBounds_toArray, List.set_cons_zero, List.set_cons_succ]) | (refine wpGO_light (v := ?_) (later_moves) rfl rfl rfl rfl (fun _ _ _ h => h) ?_ ?_ ; rotate_left ; (· (intro w' hR ; (first | have hcells := later_cellsD ((later_moves).trans _ _ _ hacc hR) | skip) ; go_simp ; try with_reducible rfl)) ; simp only [Act.put, List.setIfInBounds_toArray, List.set_cons_zero, List.set_cons_succ]))
  refine wpGO_call (later_moves) rfl rfl rfl rfl (fun _ _ _ h => h) (fun _ => by go_simp <;> rfl) (fun w' hR => HS.out _) ?_
  simp only [Act.put, List.setIfInBounds_toArray, List.set_cons_zero, List.set_cons_succ]
  repeat (first | (refine wpGO_skip (later_moves) rfl rfl rfl rfl (fun _ _ _ h => h) ?_ ; simp only [Act.put, List.setIfInBounds_toArray, List.set_cons_zero, List.set_cons_succ]) | (refine wpGO_light (v := ?_) (later_moves) rfl rfl rfl rfl (fun _ _ _ h => h) ?_ ?_ ; rotate_left ; (· (intro w' hR ; (first | have hcells := later_cellsD ((later_moves).trans _ _ _ hacc hR) | skip) ; go_simp ; try with_reducible rfl)) ; simp only [Act.put, List.setIfInBounds_toArray, List.set_cons_zero, List.set_cons_succ]))
  refine wpGO_done rfl ?_
  intro wd hRd
  replace hacc := (later_moves).trans _ _ _ hacc hRd
  clear hRd
  go_wp2
  go_ret
  exact ⟨rfl, below_chain hb0.drew hacc⟩

set_option maxRecDepth 100000 in
set_option maxHeartbeats 400000 in
theorem fInv_any (p a : Nat) (w : World) (hp : okP p = true) :
    Calls Try.prog 73 #[fv p, .int .u64 a] w fun e w' => e = .returned (.int .u64 ((a ^ (p - 2) % p : Nat) : Int)) ∧ Below w.heap.size w w' := by
  obtain ⟨hp1, hp2⟩ := okP_lt hp
  have HV := Lib.hid (fun w => fValid_any p w hp)
  have HA := Lib.hid (fun w => fReduced_any p a w (by omega))
  have HS := Lib.hid (fun w => fpow_any p (a % p) (p - 2) w hp (Nat.mod_lt _ (by omega)) (by omega))
  have e1 : IntKind.u64.wrap ((p : Int) - 2) = ((p - 2 : Nat) : Int) := wr_sub p 2 (by omega) hp2
  have e2 : (p : Int) - 2 = ((p - 2 : Nat) : Int) := by omega
  have e3 : IntKind.u64.wrap ((p - 2 : Nat) : Int) = ((p - 2 : Nat) : Int) := wr_nat _ (by omega)
  rw [← Nat.pow_mod] at HS
  clear hp hp1 hp2
  generalize a ^ (p - 2) % p = r at *
  generalize a % p = x at *
  generalize p - 2 = m at *
  unfold fv at *
  have hb0 : Below w.heap.size w (w.alloc (.cells #[.int .u64 (p : Int)] 88)) := (Below.refl _ _).alloc (Nat.le_refl _) _
  have kf := Blk.new w 88 #[.int .u64 (p : Int)]
  go_enter Try.func73, Try.ntmps73
  go_wp2_with fail
  refine (HV.out _).mono ?_
  rintro e' w1 ⟨rfl, hb1⟩
  replace kf := kf.below hb1 kf.lt
  replace hb0 := below_chain hb0 hb1
  clear hb1
  have cf := kf.cell
  have lf := kf.lt
  go_wp2_with fail
  refine wpGO_begin (Later) (later_moves) [] [] [0, 1, 2, 3, 4, 5, 6, 7, 8] (by kernel_rfl) (by kernel_rfl) ?_
  refine wpGO_start (later_moves) ?_
  intro Wc hacc
  repeat (first | (refine wpGO_skip (later_moves) rfl rfl rfl rfl (fun _ _ _ h => h) ?_ ; simp only [Act.put, List.setIfInBounds_toArray, List.set_cons_zero, List.set_cons_succ]) | (refine wpGO_light (v := ?_) (later_moves) rfl rfl rfl rfl (fun _ _ _ h => h) ?_ ?_ ; rotate_left ; (· (intro w' hR ; (first | have hcells := later_cellsD ((later_moves).trans _ _ _ hacc hR) | skip) ; go_simp ; try with_reducible rfl)) ; simp only [Act.put, List.setIfInBounds_toArray, List.set_cons_zero, List.set_cons_succ]))
  refine wpGO_call (later_moves) rfl rfl rfl rfl (fun _ _ _ h => h) (fun _ => by go_simp <;> rfl) (fun w' hR => HA.out _) ?_
  simp only [Act.put, List.setIfInBounds_toArray, List.set_cons_zero, List.set_cons_succ]
  repeat (first | (refine wpGO_skip (later_moves) rfl rfl rfl rfl (fun _ _ _ h => h) ?_ ; simp only [Act.put, List.setIfInBounds_toArray, List.set_cons_zero, List.set_cons_succ]) | (refine wpGO_light (v := ?_) (later_moves) rfl rfl rfl rfl (fun _ _ _ h => h) ?_ ?_ ; rotate_left ; (· (intro w' hR ; (first | have hcells := later_cellsD ((later_moves).trans _ _ _ hacc hR) | skip) ; go_simp ; try with_reducible rfl)) ; simp only [Act.put, List.setIfInBounds_toArray, List.set_cons_zero, List.set_cons_succ]))
  refine wpGO_call (later_moves) rfl rfl rfl rfl (fun _ _ _ h => h) (fun _ => by go_simp <;> rfl) (fun w' hR => HS.out _) ?_
  simp only [Act.put, List.setIfInBounds_toArray, List.set_cons_zero, List.set_cons_succ]
  repeat (first | (refine wpGO_skip (later_moves) rfl rfl rfl rfl (fun _ _ _ h => h) ?_ ; simp only [Act.put, List.setIfInBounds_toArray, List.set_cons_zero, List.set_cons_succ]) | (refine wpGO_light (v := ?_) (later_moves) rfl rfl rfl rfl (fun _ _ _ h => h) ?_ ?_ ; rotate_left ; (· (intro w' hR ; (first | have hcells := later_cellsD ((later_moves).trans _ _ _ hacc hR) | skip) ; go_simp ; try with_reducible rfl)) ; simp only [Act.put, List.setIfInBounds_toArray, List.set_cons_zero, List.set_cons_succ]))
  refine wpGO_done rfl ?_
  intro wd hRd
  replace hacc := (later_moves).trans _ _ _ hacc hRd
  clear hRd
  go_wp2
  go_ret
  exact ⟨rfl, below_chain hb0.drew hacc⟩

/-- The negative. -/
def negP (p a : Nat) : Nat := if a % p = 0 then 0 else p - a % p
set_option maxRecDepth 100000 in
set_option maxHeartbeats 400000 in
theorem fNeg_any (p a : Nat) (w : World) (hp : okP p = true) :
    Calls Try.prog 83 #[fv p, .int .u64 a] w fun e w' => e = .returned (.int .u64 (negP p a : Int)) ∧ Below w.heap.size w w' := by
  obtain ⟨hp1, hp2⟩ := okP_lt hp
  have HA := Lib.hid (fun w => fReduce_any p a w hp)
  have hx : a % p < p := Nat.mod_lt _ (by omega)
  have HN := Lib.hid (show negP p a = if a % p = 0 then 0 else p - a % p from rfl)
  clear hp
  generalize negP p a = r at *
  generalize a % p = x at *
  by_cases h0 : x = 0
  · have HR := Lib.hid (show r = 0 by rw [HN.out, if_pos h0])
    subst h0
    unfold fv at *
    have hb0 : Below w.heap.size w (w.alloc (.cells #[.int .u64 (p : Int)] 88)) := (Below.refl _ _).alloc (Nat.le_refl _) _
    have kf := Blk.new w 88 #[.int .u64 (p : Int)]
    go_enter Try.func83, Try.ntmps83
    go_wp2_with fail
    refine (HA.out _).mono ?_
    rintro e' w1 ⟨rfl, hb1⟩
    go_wp2
    go_ret
    exact ⟨by rw [HR.out]; rfl, below_chain hb0 hb1⟩
  · have HR := Lib.hid (show r = p - x by rw [HN.out, if_neg h0])
    have d1 : ((x : Int) == 0) = false := by rw [beq_eq_false_iff_ne]; omega
    have e1 : IntKind.u64.wrap ((p : Int) - (x : Int)) = ((p - x : Nat) : Int) := wr_sub p x (by omega) hp2
    rw [HR.out]
    clear hx hp1 hp2 h0 HR HN
    generalize p - x = z at *
    unfold fv at *
    have hb0 : Below w.heap.size w (w.alloc (.cells #[.int .u64 (p : Int)] 88)) := (Below.refl _ _).alloc (Nat.le_refl _) _
    have kf := Blk.new w 88 #[.int .u64 (p : Int)]
    go_enter Try.func83, Try.ntmps83
    go_wp2_with fail
    refine (HA.out _).mono ?_
    rintro e' w1 ⟨rfl, hb1⟩
    replace kf := kf.below hb1 kf.lt
    have cf := kf.cell
    go_wp2
    go_ret
    exact ⟨rfl, below_chain hb0 hb1⟩

theorem negP_lt (p a : Nat) (hp : 0 < p) : negP p a < p := by
  unfold negP
  split
  · exact hp
  · have := Nat.mod_lt a hp
    omega
set_option maxRecDepth 100000 in
set_option maxHeartbeats 400000 in
theorem fSub_any (p a b : Nat) (w : World) (hp : okP p = true) :
    Calls Try.prog 43 #[fv p, .int .u64 a, .int .u64 b] w fun e w' => e = .returned (.int .u64 (((a + negP p b) % p : Nat) : Int)) ∧ Below w.heap.size w w' := by
  have HN := Lib.hid (fun w => fNeg_any p b w hp)
  have HS := Lib.hid (fun w => fAdd_any p a (negP p b) w hp)
  clear hp
  generalize (a + negP p b) % p = r at *
  generalize negP p b = x at *
  unfold fv at *
  have hb0 : Below w.heap.size w (w.alloc (.cells #[.int .u64 (p : Int)] 88)) := (Below.refl _ _).alloc (Nat.le_refl _) _
  have kf := Blk.new w 88 #[.int .u64 (p : Int)]
  go_enter Try.func43, Try.ntmps43
  have cf := kf.cell
  have lf := kf.lt
  go_wp2_with fail
  refine wpGO_begin (Later) (later_moves) [] [] [0, 1, 2, 3, 4, 5, 6] (by kernel_rfl) (by kernel_rfl) ?_
  refine wpGO_start (later_moves) ?_
  intro Wc hacc
  repeat (first | (refine wpGO_skip (later_moves) rfl rfl rfl rfl (fun _ _ _ h => h) ?_ ; simp only [Act.put, List.setIfInBounds_toArray, List.set_cons_zero, List.set_cons_succ]) | (refine wpGO_light (v := ?_) (later_moves) rfl rfl rfl rfl (fun _ _ _ h => h) ?_ ?_ ; rotate_left ; (· (intro w' hR ; (first | have hcells := later_cellsD ((later_moves).trans _ _ _ hacc hR) | skip) ; go_simp ; try with_reducible rfl)) ; simp only [Act.put, List.setIfInBounds_toArray, List.set_cons_zero, List.set_cons_succ]))
  refine wpGO_call (later_moves) rfl rfl rfl rfl (fun _ _ _ h => h) (fun _ => by go_simp <;> rfl) (fun w' hR => HN.out _) ?_
  simp only [Act.put, List.setIfInBounds_toArray, List.set_cons_zero, List.set_cons_succ]
  repeat (first | (refine wpGO_skip (later_moves) rfl rfl rfl rfl (fun _ _ _ h => h) ?_ ; simp only [Act.put, List.setIfInBounds_toArray, List.set_cons_zero, List.set_cons_succ]) | (refine wpGO_light (v := ?_) (later_moves) rfl rfl rfl rfl (fun _ _ _ h => h) ?_ ?_ ; rotate_left ; (· (intro w' hR ; (first | have hcells := later_cellsD ((later_moves).trans _ _ _ hacc hR) | skip) ; go_simp ; try with_reducible rfl)) ; simp only [Act.put, List.setIfInBounds_toArray, List.set_cons_zero, List.set_cons_succ]))
  refine wpGO_call (later_moves) rfl rfl rfl rfl (fun _ _ _ h => h) (fun _ => by go_simp <;> rfl) (fun w' hR => HS.out _) ?_
  simp only [Act.put, List.setIfInBounds_toArray, List.set_cons_zero, List.set_cons_succ]
  repeat (first | (refine wpGO_skip (later_moves) rfl rfl rfl rfl (fun _ _ _ h => h) ?_ ; simp only [Act.put, List.setIfInBounds_toArray, List.set_cons_zero, List.set_cons_succ]) | (refine wpGO_light (v := ?_) (later_moves) rfl rfl rfl rfl (fun _ _ _ h => h) ?_ ?_ ; rotate_left ; (· (intro w' hR ; (first | have hcells := later_cellsD ((later_moves).trans _ _ _ hacc hR) | skip) ; go_simp ; try with_reducible rfl)) ; simp only [Act.put, List.setIfInBounds_toArray, List.set_cons_zero, List.set_cons_succ]))
  refine wpGO_done rfl ?_
  intro wd hRd
  replace hacc := (later_moves).trans _ _ _ hacc hRd
  clear hRd
  go_wp2
  go_ret
  exact ⟨rfl, below_chain hb0.drew hacc⟩

set_option maxRecDepth 100000 in
set_option maxHeartbeats 400000 in
theorem fDiv_any (p a b : Nat) (w : World) (hp : okP p = true) :
    Calls Try.prog 45 #[fv p, .int .u64 a, .int .u64 b] w fun e w' => e = .returned (.int .u64 ((a * (b ^ (p - 2) % p) % p : Nat) : Int)) ∧ Below w.heap.size w w' := by
  have HN := Lib.hid (fun w => fInv_any p b w hp)
  have HS := Lib.hid (fun w => fMul_any p a (b ^ (p - 2) % p) w hp)
  clear hp
  generalize a * (b ^ (p - 2) % p) % p = r at *
  generalize b ^ (p - 2) % p = x at *
  unfold fv at *
  have hb0 : Below w.heap.size w (w.alloc (.cells #[.int .u64 (p : Int)] 88)) := (Below.refl _ _).alloc (Nat.le_refl _) _
  have kf := Blk.new w 88 #[.int .u64 (p : Int)]
  go_enter Try.func45, Try.ntmps45
  have cf := kf.cell
  have lf := kf.lt
  go_wp2_with fail
  refine wpGO_begin (Later) (later_moves) [] [] [0, 1, 2, 3, 4, 5, 6] (by kernel_rfl) (by kernel_rfl) ?_
  refine wpGO_start (later_moves) ?_
  intro Wc hacc
  repeat (first | (refine wpGO_skip (later_moves) rfl rfl rfl rfl (fun _ _ _ h => h) ?_ ; simp only [Act.put, List.setIfInBounds_toArray, List.set_cons_zero, List.set_cons_succ]) | (refine wpGO_light (v := ?_) (later_moves) rfl rfl rfl rfl (fun _ _ _ h => h) ?_ ?_ ; rotate_left ; (· (intro w' hR ; (first | have hcells := later_cellsD ((later_moves).trans _ _ _ hacc hR) | skip) ; go_simp ; try with_reducible rfl)) ; simp only [Act.put, List.setIfInBounds_toArray, List.set_cons_zero, List.set_cons_succ]))
  refine wpGO_call (later_moves) rfl rfl rfl rfl (fun _ _ _ h => h) (fun _ => by go_simp <;> rfl) (fun w' hR => HN.out _) ?_
  simp only [Act.put, List.setIfInBounds_toArray, List.set_cons_zero, List.set_cons_succ]
  repeat (first | (refine wpGO_skip (later_moves) rfl rfl rfl rfl (fun _ _ _ h => h) ?_ ; simp only [Act.put, List.setIfInBounds_toArray, List.set_cons_zero, List.set_cons_succ]) | (refine wpGO_light (v := ?_) (later_moves) rfl rfl rfl rfl (fun _ _ _ h => h) ?_ ?_ ; rotate_left ; (· (intro w' hR ; (first | have hcells := later_cellsD ((later_moves).trans _ _ _ hacc hR) | skip) ; go_simp ; try with_reducible rfl)) ; simp only [Act.put, List.setIfInBounds_toArray, List.set_cons_zero, List.set_cons_succ]))
  refine wpGO_call (later_moves) rfl rfl rfl rfl (fun _ _ _ h => h) (fun _ => by go_simp <;> rfl) (fun w' hR => HS.out _) ?_
  simp only [Act.put, List.setIfInBounds_toArray, List.set_cons_zero, List.set_cons_succ]
  repeat (first | (refine wpGO_skip (later_moves) rfl rfl rfl rfl (fun _ _ _ h => h) ?_ ; simp only [Act.put, List.setIfInBounds_toArray, List.set_cons_zero, List.set_cons_succ]) | (refine wpGO_light (v := ?_) (later_moves) rfl rfl rfl rfl (fun _ _ _ h => h) ?_ ?_ ; rotate_left ; (· (intro w' hR ; (first | have hcells := later_cellsD ((later_moves).trans _ _ _ hacc hR) | skip) ; go_simp ; try with_reducible rfl)) ; simp only [Act.put, List.setIfInBounds_toArray, List.set_cons_zero, List.set_cons_succ]))
  refine wpGO_done rfl ?_
  intro wd hRd
  replace hacc := (later_moves).trans _ _ _ hacc hRd
  clear hRd
  go_wp2
  go_ret
  exact ⟨rfl, below_chain hb0.drew hacc⟩

end Go.Proofs.Ytefnagiffllhbaa

/- RefC -/
namespace Go.Proofs.Ytefnagiffllhbaa
open Go.RowKit

/-- What is wrong with term i. -/
def linBad (p : Nat) (n : Int) (l : List (Int × Nat)) (i : Nat) : Bool :=
  decide ((l.getD i (0, 0)).1 < 0) || decide (n ≤ (l.getD i (0, 0)).1) || (decide (0 < i) && decide ((l.getD i (0, 0)).1 ≤ (l.getD (i - 1) (0, 0)).1)) || (l.getD i (0, 0)).2 == 0 || decide (p ≤ (l.getD i (0, 0)).2)
def linOk (p : Nat) (n : Int) (l : List (Int × Nat)) : Bool := (List.range l.length).all fun i => !linBad p n l i
theorem linOk_bad {p : Nat} {n : Int} {l : List (Int × Nat)} {j : Nat} (hj : j < l.length) (h : linBad p n l j = true) : linOk p n l = false := by
  unfold linOk
  rw [List.all_eq_false]
  exact ⟨j, by simpa using hj, by simp [h]⟩
theorem linOk_good {p : Nat} {n : Int} {l : List (Int × Nat)} (h : ∀ k < l.length, linBad p n l k = false) : linOk p n l = true := by
  unfold linOk
  rw [List.all_eq_true]
  intro k hk
  simp [h k (by simpa using hk)]

theorem ext_false {f : Nat → Bool} {j : Nat} (h : ∀ k < j, f k = false) (hj : f j = false) : ∀ k < j + 1, f k = false := fun k hk => by
  rcases Nat.lt_or_ge k j with h1 | h1
  · exact h k h1
  · have e : k = j := by omega
    rw [e]
    exact hj

/-- A term, read. -/
theorem RLin.at_ {w : World} {b q : Nat} {l : List (Int × Nat)} (h : RdL w 2 RTerm (some ⟨b, q, none⟩) l) {i : Nat} (hi : i < l.length) :
    w.cell? ⟨b, q + i * 2, none⟩ = some (.int .i64 (l.getD i (0, 0)).1) ∧ w.cell? ⟨b, q + i * 2 + 1, none⟩ = some (.int .u64 ((l.getD i (0, 0)).2 : Int)) := by
  obtain ⟨cs, hl, hc, rfl, -, -⟩ := h.get hi
  have h0 := hc 0 (by omega)
  have h1 := hc 1 (by omega)
  simp [hi] at h0 h1 ⊢
  exact ⟨h0, h1⟩

set_option maxRecDepth 100000 in
set_option maxHeartbeats 4000000 in
theorem rLinear_any (p : Nat) (n : Int) (A : Option Addr) (len c : Nat) (l : List (Int × Nat)) (w : World) (hl : RLin w [.slice A len c] l) (_hp : p < 18446744073709551616) :
    Calls Try.prog 107 #[.int .u64 p, .slice A len c, .int .i64 n] w fun e w' => e = .returned (.bool (linOk p n l)) ∧ Below w.heap.size w w' := by
  obtain ⟨A', n', c', he, hlen, hnc, hmx, hrd⟩ := hl
  simp at he
  obtain ⟨rfl, rfl, rfl⟩ := he
  subst hlen
  go_enter Try.func107, Try.ntmps107
  go_wp2_with fail
  go_loopw [7] (fun i wr => ∃ j : Nat, j ≤ l.length ∧ i = .int .i64 (j : Int) ∧ Below w.heap.size w wr ∧ Hid (∀ k < j, linBad p n l k = false))
    (fun i _ => l.length - (intOf i).toNat)
  case atStart => exact ⟨0, Nat.zero_le _, rfl, Below.refl _ _, fun k hk => by omega⟩
  case round =>
    obtain ⟨j, hj, rfl, hb, HB⟩ := hrel
    by_cases hlt : j < l.length
    · have HL := Lib.hid hlt
      obtain ⟨b, q, rfl⟩ := hrd.base (by omega) (by omega)
      have hrd' := hrd.below kept_RTerm hb
      obtain ⟨c1, c2⟩ := RLin.at_ hrd' hlt
      have g0 : (l.length : Int) ≤ 9223372036854775807 := by
        have h3 := hnc
        have h4 := hmx
        simp [maxLen] at h4
        omega
      have g1 : (0 : Int) ≤ (j : Int) := by omega
      have g2 : (j : Int) < (l.length : Int) := by omega
      have HD : Hid (linBad p n l j = (decide ((l.getD j (0, 0)).1 < 0) || decide (n ≤ (l.getD j (0, 0)).1) || (decide (0 < j) && decide ((l.getD j (0, 0)).1 ≤ (l.getD (j - 1) (0, 0)).1)) || (l.getD j (0, 0)).2 == 0 || decide (p ≤ (l.getD j (0, 0)).2))) := rfl
      have HC := Lib.hid (fun (h0 : 0 < j) => (RLin.at_ hrd' (show j - 1 < l.length by omega)).1)
      revert c1 c2 HD HC
      generalize (l.getD j (0, 0)).1 = x
      generalize (l.getD j (0, 0)).2 = y
      generalize (l.getD (j - 1) (0, 0)).1 = z
      intro c1 c2 HD HC
      clear hrd hrd'
      by_cases z1 : x < 0
      · have d1 := decide_eq_true z1
        go_wp2_with fail
        go_quiet (fail)
        go_wp2
        go_ret
        exact ⟨by rw [linOk_bad HL.out (HD.out.trans (by simp [*]))]; rfl, by first | exact below_drewN hb _ | exact hb⟩
      · have d1 := decide_eq_false z1
        by_cases z2 : n ≤ x
        · have d2 := decide_eq_true z2
          go_wp2_with fail
          go_quiet (fail)
          go_wp2
          go_ret
          exact ⟨by rw [linOk_bad HL.out (HD.out.trans (by simp [*]))]; rfl, by first | exact below_drewN hb _ | exact hb⟩
        · have d2 := decide_eq_false z2
          rcases Nat.eq_zero_or_pos j with z3 | z3
          · subst z3
            simp only [Nat.zero_mul, Nat.add_zero] at c1 c2
            by_cases z4 : y = 0
            · subst z4
              go_wp2_with fail
              go_quiet (fail)
              go_wp2
              go_ret
              exact ⟨by rw [linOk_bad HL.out (HD.out.trans (by simp [*]))]; rfl, by first | exact below_drewN hb _ | exact hb⟩
            · have d4 : ((y : Int) == 0) = false := by rw [beq_eq_false_iff_ne]; omega
              by_cases z5 : p ≤ y
              · have d5 : decide ((p : Int) ≤ (y : Int)) = true := decide_eq_true (by omega)
                go_wp2_with fail
                go_quiet (fail)
                go_wp2
                go_ret
                exact ⟨by rw [linOk_bad HL.out (HD.out.trans (by simp [*]))]; rfl, by first | exact below_drewN hb _ | exact hb⟩
              · have d5 : decide ((p : Int) ≤ (y : Int)) = false := decide_eq_false (by omega)
                go_wp2_with fail
                go_quiet (fail)
                go_wp2
                go_roundw
                case rel => exact ⟨0 + 1, by omega, by go_num, by first | exact below_drewN hb _ | exact hb, ext_false HB.out (HD.out.trans (by simp [*]))⟩
                case measure => simp [intOf]; omega
          · have d3 : decide ((0 : Int) < (j : Int)) = true := decide_eq_true (by omega)
            have c3 := HC.out z3
            have i1 : (0 : Int) ≤ (j : Int) - 1 := by omega
            have i2 : (j : Int) - 1 < (l.length : Int) := by omega
            have i3 : ((j : Int) - 1).toNat = j - 1 := by omega
            by_cases z6 : x ≤ z
            · have d6 := decide_eq_true z6
              go_wp2_with fail
              go_quiet (fail)
              go_wp2
              go_ret
              exact ⟨by rw [linOk_bad HL.out (HD.out.trans (by simp [*]))]; rfl, by first | exact below_drewN hb _ | exact hb⟩
            · have d6 := decide_eq_false z6
              by_cases z4 : y = 0
              · subst z4
                go_wp2_with fail
                go_quiet (fail)
                go_wp2
                go_ret
                exact ⟨by rw [linOk_bad HL.out (HD.out.trans (by simp [*]))]; rfl, by first | exact below_drewN hb _ | exact hb⟩
              · have d4 : ((y : Int) == 0) = false := by rw [beq_eq_false_iff_ne]; omega
                by_cases z5 : p ≤ y
                · have d5 : decide ((p : Int) ≤ (y : Int)) = true := decide_eq_true (by omega)
                  go_wp2_with fail
                  go_quiet (fail)
                  go_wp2
                  go_ret
                  exact ⟨by rw [linOk_bad HL.out (HD.out.trans (by simp [*]))]; rfl, by first | exact below_drewN hb _ | exact hb⟩
                · have d5 : decide ((p : Int) ≤ (y : Int)) = false := decide_eq_false (by omega)
                  go_wp2_with fail
                  go_quiet (fail)
                  go_wp2
                  go_roundw
                  case rel => exact ⟨j + 1, by omega, by go_num, by first | exact below_drewN hb _ | exact hb, ext_false HB.out (HD.out.trans (by simp [*]))⟩
                  case measure => simp [intOf]; omega
    · go_wp2
      go_ret
      have e : j = l.length := by omega
      subst e
      exact ⟨by rw [linOk_good HB.out]; rfl, hb⟩
end Go.Proofs.Ytefnagiffllhbaa

/- RefD -/
namespace Go.Proofs.Ytefnagiffllhbaa
open Go.RowKit

/-- The cell of a slice. -/
def slc (v : Value) : Prop := ∃ A n c, v = .slice A n c
theorem RSl.slc {α : Type} {R : World → List Value → α → Prop} {sz : Nat} {w : World} {v : Value} {l : List α} (h : RSl sz R w [v] l) : slc v := by
  obtain ⟨A, n, c, e, -⟩ := h
  simp at e
  exact ⟨A, n, c, e⟩
/-- A table, as a value. -/
def tabV (p : Nat) (pub vars : Int) (rows : Value) : Value := .agg #[.int .u64 (p : Int), .int .i64 pub, .int .i64 vars, rows]

def rowOk (p : Nat) (n : Int) (r : RowR) : Bool := linOk p n r.a && linOk p n r.b && linOk p n r.c

theorem two_boxes {w w1 : World} {t1 t2 : TypeId} {cs1 cs2 : Array Value} (hb : Below ((w.alloc (.cells cs1 t1)).alloc (.cells cs2 t2)).heap.size ((w.alloc (.cells cs1 t1)).alloc (.cells cs2 t2)) w1) :
    Blk w1 w.heap.size t1 cs1 ∧ Blk w1 (w.heap.size + 1) t2 cs2 ∧ Below w.heap.size w w1 := by
  refine ⟨((Blk.new w t1 cs1).alloc _).below hb (by simp; omega), ?_, below_chain (((Below.refl _ w).alloc (Nat.le_refl _) _).alloc (by simp) _) hb⟩
  have := (Blk.new (w.alloc (.cells cs1 t1)) t2 cs2).below hb (by simp)
  simpa using this

set_option maxRecDepth 100000 in
set_option maxHeartbeats 1000000 in
theorem rRow_any (p : Nat) (pub vars : Int) (rows : Value) (r : RowR) (x y z : Value) (w : World) (hx : RLin w [x] r.a) (hy : RLin w [y] r.b) (hz : RLin w [z] r.c) (hp : p < 18446744073709551616) :
    Calls Try.prog 90 #[tabV p pub vars rows, .agg #[x, y, z]] w fun e w' => e = .returned (.bool (rowOk p vars r)) ∧ Below w.heap.size w w' := by
  obtain ⟨A1, n1, c1, rfl⟩ := RSl.slc hx
  obtain ⟨A2, n2, c2, rfl⟩ := RSl.slc hy
  obtain ⟨A3, n3, c3, rfl⟩ := RSl.slc hz
  unfold tabV
  cases b1 : linOk p vars r.a
  · have E := Lib.hid (show rowOk p vars r = false by simp [rowOk, b1])
    have B1 := Lib.hid b1
    clear b1
    go_enter Try.func90, Try.ntmps90
    go_wp2_with (first | (go_at_call 107; refine (rLinear_any p vars _ _ _ r.a _ (kept_RLin _ _ _ _ (((Below.refl _ w).alloc (Nat.le_refl _) _).alloc (by simp) _) hx) hp).mono ?_; rintro e w1 ⟨rfl, hb⟩; rw [B1.out]; obtain ⟨K1, K2, hb1⟩ := two_boxes hb; have t0 : w1.cell? ⟨w.heap.size, 0, none⟩ = some (.int .u64 (p : Int)) := K1.cell 0; have t2 : w1.cell? ⟨w.heap.size, 2, none⟩ = some (.int .i64 vars) := K1.cell 2; have y1 : w1.cell? ⟨w.heap.size + 1, 1, none⟩ = some (.slice A2 n2 c2) := K2.cell 1; have y2 : w1.cell? ⟨w.heap.size + 1, 2, none⟩ = some (.slice A3 n3 c3) := K2.cell 2; clear hb))
    go_ret
    exact ⟨by rw [E.out]; rfl, hb1⟩
  have B1 := Lib.hid b1
  cases b2 : linOk p vars r.b
  · have E := Lib.hid (show rowOk p vars r = false by simp [rowOk, b1, b2])
    have B2 := Lib.hid b2
    clear b1 b2
    go_enter Try.func90, Try.ntmps90
    go_wp2_with (first | (go_at_call 107; refine (rLinear_any p vars _ _ _ r.b _ (kept_RLin _ _ _ _ hb1 hy) hp).mono ?_; rintro e w2 ⟨rfl, hb2⟩; rw [B2.out]; clear t0 t2 y1 y2; have t0 : w2.cell? ⟨w.heap.size, 0, none⟩ = some (.int .u64 (p : Int)) := (K1.below hb2 K1.lt).cell 0; have t2 : w2.cell? ⟨w.heap.size, 2, none⟩ = some (.int .i64 vars) := (K1.below hb2 K1.lt).cell 2; have y2 : w2.cell? ⟨w.heap.size + 1, 2, none⟩ = some (.slice A3 n3 c3) := (K2.below hb2 K2.lt).cell 2) | (go_at_call 107; refine (rLinear_any p vars _ _ _ r.a _ (kept_RLin _ _ _ _ (((Below.refl _ w).alloc (Nat.le_refl _) _).alloc (by simp) _) hx) hp).mono ?_; rintro e w1 ⟨rfl, hb⟩; rw [B1.out]; obtain ⟨K1, K2, hb1⟩ := two_boxes hb; have t0 : w1.cell? ⟨w.heap.size, 0, none⟩ = some (.int .u64 (p : Int)) := K1.cell 0; have t2 : w1.cell? ⟨w.heap.size, 2, none⟩ = some (.int .i64 vars) := K1.cell 2; have y1 : w1.cell? ⟨w.heap.size + 1, 1, none⟩ = some (.slice A2 n2 c2) := K2.cell 1; have y2 : w1.cell? ⟨w.heap.size + 1, 2, none⟩ = some (.slice A3 n3 c3) := K2.cell 2; clear hb))
    go_ret
    exact ⟨by rw [E.out]; rfl, below_chain hb1 hb2⟩
  have B2 := Lib.hid b2
  have E := Lib.hid (show rowOk p vars r = linOk p vars r.c by simp [rowOk, b1, b2])
  clear b1 b2
  go_enter Try.func90, Try.ntmps90
  go_wp2_with (first | (go_at_call 107; refine (rLinear_any p vars _ _ _ r.c _ (kept_RLin _ _ _ _ (below_chain hb1 hb2) hz) hp).mono ?_; rintro e w3 ⟨rfl, hb3⟩) | (go_at_call 107; refine (rLinear_any p vars _ _ _ r.b _ (kept_RLin _ _ _ _ hb1 hy) hp).mono ?_; rintro e w2 ⟨rfl, hb2⟩; rw [B2.out]; clear t0 t2 y1 y2; have t0 : w2.cell? ⟨w.heap.size, 0, none⟩ = some (.int .u64 (p : Int)) := (K1.below hb2 K1.lt).cell 0; have t2 : w2.cell? ⟨w.heap.size, 2, none⟩ = some (.int .i64 vars) := (K1.below hb2 K1.lt).cell 2; have y2 : w2.cell? ⟨w.heap.size + 1, 2, none⟩ = some (.slice A3 n3 c3) := (K2.below hb2 K2.lt).cell 2) | (go_at_call 107; refine (rLinear_any p vars _ _ _ r.a _ (kept_RLin _ _ _ _ (((Below.refl _ w).alloc (Nat.le_refl _) _).alloc (by simp) _) hx) hp).mono ?_; rintro e w1 ⟨rfl, hb⟩; rw [B1.out]; obtain ⟨K1, K2, hb1⟩ := two_boxes hb; have t0 : w1.cell? ⟨w.heap.size, 0, none⟩ = some (.int .u64 (p : Int)) := K1.cell 0; have t2 : w1.cell? ⟨w.heap.size, 2, none⟩ = some (.int .i64 vars) := K1.cell 2; have y1 : w1.cell? ⟨w.heap.size + 1, 1, none⟩ = some (.slice A2 n2 c2) := K2.cell 1; have y2 : w1.cell? ⟨w.heap.size + 1, 2, none⟩ = some (.slice A3 n3 c3) := K2.cell 2; clear hb))
  go_ret
  exact ⟨by rw [E.out]; rfl, below_chain (below_chain hb1 hb2) hb3⟩
end Go.Proofs.Ytefnagiffllhbaa

/- RefE -/
namespace Go.Proofs.Ytefnagiffllhbaa
open Go.RowKit

theorem later_cell {w w' : World} {p : Addr} {v : Value} (hR : Later w w') (h : w.cell? p = some v) : w'.cell? p = some v := (Below.cell hR (World.block_lt_of_cell? _ _ h)).trans h

/-- Whether a table is valid. -/
def tabOk (p : Nat) (pub vars : Int) (rows : List RowR) : Bool :=
  okP p && !decide (pub < 0) && !decide (vars ≤ pub) && !decide (65536 < vars) && !decide ((16384 : Int) < (rows.length : Int)) && rows.all (rowOk p vars)

set_option linter.unusedSimpArgs false in
set_option maxRecDepth 100000 in
set_option maxHeartbeats 4000000 in
theorem rValid_any (p : Nat) (pub vars : Int) (A : Option Addr) (n c : Nat) (rows : List RowR) (w : World) (hr : RSl 3 RRow w [.slice A n c] rows) (hp : p < 18446744073709551616) :
    Calls Try.prog 49 #[tabV p pub vars (.slice A n c)] w fun e w' => e = .returned (.bool (tabOk p pub vars rows)) ∧ Below w.heap.size w w' := by
  obtain ⟨A', n', c', he, hlen, hnc, hmx, hrd⟩ := hr
  simp at he
  obtain ⟨rfl, rfl, rfl⟩ := he
  subst hlen
  unfold tabV
  cases b1 : okP p
  · have E := Lib.hid (show tabOk p pub vars rows = false by simp [tabOk, b1])
    have B1 := Lib.hid b1
    clear b1
    go_enter Try.func49, Try.ntmps49
    go_wp2_with (go_at_call 76; refine (rValidP_any p _ hp).mono ?_; rintro e w1 ⟨rfl, hb⟩; rw [B1.out]; have hB := (Blk.new w _ _).below hb (by simp); have hb1 : Below w.heap.size w w1 := below_chain ((Below.refl _ w).alloc (Nat.le_refl _) _) hb; have t1 : w1.cell? ⟨w.heap.size, 1, none⟩ = some (.int .i64 pub) := hB.cell 1; have t2 : w1.cell? ⟨w.heap.size, 2, none⟩ = some (.int .i64 vars) := hB.cell 2; have t3 : w1.cell? ⟨w.heap.size, 3, none⟩ = some (.slice A rows.length c) := hB.cell 3; clear hb)
    go_ret
    exact ⟨by rw [E.out]; rfl, hb1⟩
  have B1 := Lib.hid b1
  by_cases z1 : pub < 0
  · have E := Lib.hid (show tabOk p pub vars rows = false by unfold tabOk; rw [decide_eq_true z1]; simp)
    have d1 := decide_eq_true z1
    clear b1
    go_enter Try.func49, Try.ntmps49
    go_wp2_with (go_at_call 76; refine (rValidP_any p _ hp).mono ?_; rintro e w1 ⟨rfl, hb⟩; rw [B1.out]; have hB := (Blk.new w _ _).below hb (by simp); have hb1 : Below w.heap.size w w1 := below_chain ((Below.refl _ w).alloc (Nat.le_refl _) _) hb; have t1 : w1.cell? ⟨w.heap.size, 1, none⟩ = some (.int .i64 pub) := hB.cell 1; have t2 : w1.cell? ⟨w.heap.size, 2, none⟩ = some (.int .i64 vars) := hB.cell 2; have t3 : w1.cell? ⟨w.heap.size, 3, none⟩ = some (.slice A rows.length c) := hB.cell 3; clear hb)
    go_ret
    exact ⟨by rw [E.out]; rfl, hb1⟩
  have d1 := decide_eq_false z1
  by_cases z2 : vars ≤ pub
  · have E := Lib.hid (show tabOk p pub vars rows = false by unfold tabOk; rw [decide_eq_true z2]; simp)
    have d2 := decide_eq_true z2
    clear b1
    go_enter Try.func49, Try.ntmps49
    go_wp2_with (go_at_call 76; refine (rValidP_any p _ hp).mono ?_; rintro e w1 ⟨rfl, hb⟩; rw [B1.out]; have hB := (Blk.new w _ _).below hb (by simp); have hb1 : Below w.heap.size w w1 := below_chain ((Below.refl _ w).alloc (Nat.le_refl _) _) hb; have t1 : w1.cell? ⟨w.heap.size, 1, none⟩ = some (.int .i64 pub) := hB.cell 1; have t2 : w1.cell? ⟨w.heap.size, 2, none⟩ = some (.int .i64 vars) := hB.cell 2; have t3 : w1.cell? ⟨w.heap.size, 3, none⟩ = some (.slice A rows.length c) := hB.cell 3; clear hb)
    go_ret
    exact ⟨by rw [E.out]; rfl, hb1⟩
  have d2 := decide_eq_false z2
  by_cases z3 : 65536 < vars
  · have E := Lib.hid (show tabOk p pub vars rows = false by unfold tabOk; rw [decide_eq_true z3]; simp)
    have d3 := decide_eq_true z3
    clear b1
    go_enter Try.func49, Try.ntmps49
    go_wp2_with (go_at_call 76; refine (rValidP_any p _ hp).mono ?_; rintro e w1 ⟨rfl, hb⟩; rw [B1.out]; have hB := (Blk.new w _ _).below hb (by simp); have hb1 : Below w.heap.size w w1 := below_chain ((Below.refl _ w).alloc (Nat.le_refl _) _) hb; have t1 : w1.cell? ⟨w.heap.size, 1, none⟩ = some (.int .i64 pub) := hB.cell 1; have t2 : w1.cell? ⟨w.heap.size, 2, none⟩ = some (.int .i64 vars) := hB.cell 2; have t3 : w1.cell? ⟨w.heap.size, 3, none⟩ = some (.slice A rows.length c) := hB.cell 3; clear hb)
    go_ret
    exact ⟨by rw [E.out]; rfl, hb1⟩
  have d3 := decide_eq_false z3
  by_cases z4 : (16384 : Int) < (rows.length : Int)
  · have E := Lib.hid (show tabOk p pub vars rows = false by unfold tabOk; rw [decide_eq_true z4]; simp)
    have d4 := decide_eq_true z4
    clear b1
    go_enter Try.func49, Try.ntmps49
    go_wp2_with (go_at_call 76; refine (rValidP_any p _ hp).mono ?_; rintro e w1 ⟨rfl, hb⟩; rw [B1.out]; have hB := (Blk.new w _ _).below hb (by simp); have hb1 : Below w.heap.size w w1 := below_chain ((Below.refl _ w).alloc (Nat.le_refl _) _) hb; have t1 : w1.cell? ⟨w.heap.size, 1, none⟩ = some (.int .i64 pub) := hB.cell 1; have t2 : w1.cell? ⟨w.heap.size, 2, none⟩ = some (.int .i64 vars) := hB.cell 2; have t3 : w1.cell? ⟨w.heap.size, 3, none⟩ = some (.slice A rows.length c) := hB.cell 3; clear hb)
    go_ret
    exact ⟨by rw [E.out]; rfl, hb1⟩
  have d4 := decide_eq_false z4
  have E := Lib.hid (show tabOk p pub vars rows = rows.all (rowOk p vars) by unfold tabOk; rw [b1, d1, d2, d3, d4]; simp)
  clear b1
  go_enter Try.func49, Try.ntmps49
  go_wp2_with (go_at_call 76; refine (rValidP_any p _ hp).mono ?_; rintro e w1 ⟨rfl, hb⟩; rw [B1.out]; have hB := (Blk.new w _ _).below hb (by simp); have hb1 : Below w.heap.size w w1 := below_chain ((Below.refl _ w).alloc (Nat.le_refl _) _) hb; have t1 : w1.cell? ⟨w.heap.size, 1, none⟩ = some (.int .i64 pub) := hB.cell 1; have t2 : w1.cell? ⟨w.heap.size, 2, none⟩ = some (.int .i64 vars) := hB.cell 2; have t3 : w1.cell? ⟨w.heap.size, 3, none⟩ = some (.slice A rows.length c) := hB.cell 3; clear hb)
  go_loopw [3] (fun i wr => ∃ j : Nat, j ≤ rows.length ∧ i = .int .i64 (j : Int) ∧ Below w1.heap.size w1 wr ∧ Hid (∀ k < j, ∀ h : k < rows.length, rowOk p vars rows[k] = true))
    (fun i _ => rows.length - (intOf i).toNat)
  case atStart => exact ⟨0, Nat.zero_le _, rfl, Below.refl _ _, fun k hk => by omega⟩
  case round =>
    obtain ⟨j, hj, rfl, hbr, HB⟩ := hrel
    have s3 : wr.cell? ⟨w.heap.size, 3, none⟩ = some (.slice A rows.length c) := (hB.below hbr hB.lt).cell 3
    by_cases hlt : j < rows.length
    · have hBr : Blk wr.drew w.heap.size 25 _ := hB.below hbr.drew hB.lt
      have hbw : Below w.heap.size w wr.drew := below_chain hb1 hbr.drew
      obtain ⟨b, q, rfl⟩ := hrd.base (by omega) (by omega)
      obtain ⟨cs, -, hc, x, y, z, rfl, hx1, hy1, hz1⟩ := (hrd.below kept_RRow hbw).get hlt
      have h0 : wr.drew.cell? ⟨b, q + j * 3, none⟩ = some x := hc 0 (by omega)
      have h1 : wr.drew.cell? ⟨b, q + j * 3 + 1, none⟩ = some y := hc 1 (by omega)
      have h2 : wr.drew.cell? ⟨b, q + j * 3 + 2, none⟩ = some z := hc 2 (by omega)
      have HL := Lib.hid hlt
      have i1 : (0 : Int) ≤ (j : Int) := by omega
      have i2 : (j : Int) < (rows.length : Int) := by omega
      clear hc
      cases bo : rowOk p vars rows[j]
      · have HO := Lib.hid bo
        clear bo
        go_wp2_with fail
        refine wpR_begin Later (by kernel_rfl) ?_
        refine wpR_take 0 (v := tabV p pub vars (.slice (some ⟨b, q, none⟩) rows.length c)) later_moves (by decide) (by kernel_rfl) (by kernel_rfl) (by kernel_rfl) (fun _ _ _ h => h) (wantedT (by rfl) ?_) ?_ ; · ( intro w' hR ; simp only [List.getElem_cons_succ, List.getElem_cons_zero] ; unfold tabV ; have q0 := (hBr.below hR hBr.lt).cell 0 ; have q1 := (hBr.below hR hBr.lt).cell 1 ; have q2 := (hBr.below hR hBr.lt).cell 2 ; have q3 := (hBr.below hR hBr.lt).cell 3 ; simp at q0 q1 q2 q3 ; go_simp )
        simp only [Act.put, List.getElem_cons_succ, List.getElem_cons_zero, List.setIfInBounds_toArray, List.set_cons_zero, List.set_cons_succ]
        refine wpR_take 1 (v := ?_) later_moves (by decide) (by kernel_rfl) (by kernel_rfl) (by kernel_rfl) (fun _ _ _ h => h) (wantedT (by rfl) ?_) ?_ ; rotate_left ; · ( intro w' hR ; simp only [List.getElem_cons_succ, List.getElem_cons_zero] ; go_simp ; try with_reducible rfl )
        simp only [Act.put, List.getElem_cons_succ, List.getElem_cons_zero, List.setIfInBounds_toArray, List.set_cons_zero, List.set_cons_succ]
        refine wpR_take 2 (v := .slice (some ⟨b, q, none⟩) rows.length c) later_moves (by decide) (by kernel_rfl) (by kernel_rfl) (by kernel_rfl) (fun _ _ _ h => h) (wantedT (by rfl) ?_) ?_ ; · ( intro w' hR ; simp only [List.getElem_cons_succ, List.getElem_cons_zero] ; have q3 := (hBr.below hR hBr.lt).cell 3 ; simp at q3 ; go_simp )
        simp only [Act.put, List.getElem_cons_succ, List.getElem_cons_zero, List.setIfInBounds_toArray, List.set_cons_zero, List.set_cons_succ]
        refine wpR_take 3 (v := ?_) later_moves (by decide) (by kernel_rfl) (by kernel_rfl) (by kernel_rfl) (fun _ _ _ h => h) (wantedT (by rfl) ?_) ?_ ; rotate_left ; · ( intro w' hR ; simp only [List.getElem_cons_succ, List.getElem_cons_zero] ; go_simp ; try with_reducible rfl )
        simp only [Act.put, List.getElem_cons_succ, List.getElem_cons_zero, List.setIfInBounds_toArray, List.set_cons_zero, List.set_cons_succ]
        refine wpR_take 4 (v := ?_) later_moves (by decide) (by kernel_rfl) (by kernel_rfl) (by kernel_rfl) (fun _ _ _ h => h) (wantedT (by rfl) ?_) ?_ ; rotate_left ; · ( intro w' hR ; simp only [List.getElem_cons_succ, List.getElem_cons_zero] ; go_simp ; try with_reducible rfl )
        simp only [Act.put, List.getElem_cons_succ, List.getElem_cons_zero, List.setIfInBounds_toArray, List.set_cons_zero, List.set_cons_succ]
        refine wpR_take 5 (v := .agg #[x, y, z]) later_moves (by decide) (by kernel_rfl) (by kernel_rfl) (by kernel_rfl) (fun _ _ _ h => h) (wantedT (by rfl) ?_) ?_ ; · ( intro w' hR ; simp only [List.getElem_cons_succ, List.getElem_cons_zero] ; have r0 := later_cell hR h0 ; have r1 := later_cell hR h1 ; have r2 := later_cell hR h2 ; go_simp )
        simp only [Act.put, List.getElem_cons_succ, List.getElem_cons_zero, List.setIfInBounds_toArray, List.set_cons_zero, List.set_cons_succ]
        refine wpR_call 6 later_moves (by decide) (by kernel_rfl) (by rfl) ((rRow_any p pub vars (.slice (some ⟨b, q, none⟩) rows.length c) rows[j] x y z _ hx1 hy1 hz1 hp).mono ?_) (fun _ => by simp only [List.getElem_cons_succ, List.getElem_cons_zero] ; go_simp)
        rintro e w3 ⟨rfl, hb3⟩
        rw [HO.out]
        refine ⟨_, rfl, hb3, ?_⟩
        simp only [Act.put, List.getElem_cons_succ, List.getElem_cons_zero, List.setIfInBounds_toArray, List.set_cons_zero, List.set_cons_succ]
        refine wpR_take 7 (v := ?_) later_moves (by decide) (by kernel_rfl) (by kernel_rfl) (by kernel_rfl) (fun _ _ _ h => h) (wantedT (by rfl) ?_) ?_ ; rotate_left ; · ( intro w' hR ; simp only [List.getElem_cons_succ, List.getElem_cons_zero] ; go_simp ; try with_reducible rfl )
        simp only [Act.put, List.getElem_cons_succ, List.getElem_cons_zero, List.setIfInBounds_toArray, List.set_cons_zero, List.set_cons_succ]
        refine wpR_done (by kernel_rfl) ?_
        go_wp2
        go_ret
        refine ⟨by rw [E.out, List.all_eq_false.2 ⟨rows[j], List.getElem_mem HL.out, fun h => Bool.noConfusion (HO.out.symm.trans h)⟩]; rfl, below_chain hbw hb3⟩
      · have HO := Lib.hid bo
        clear bo
        go_wp2_with fail
        refine wpR_begin Later (by kernel_rfl) ?_
        refine wpR_take 0 (v := tabV p pub vars (.slice (some ⟨b, q, none⟩) rows.length c)) later_moves (by decide) (by kernel_rfl) (by kernel_rfl) (by kernel_rfl) (fun _ _ _ h => h) (wantedT (by rfl) ?_) ?_ ; · ( intro w' hR ; simp only [List.getElem_cons_succ, List.getElem_cons_zero] ; unfold tabV ; have q0 := (hBr.below hR hBr.lt).cell 0 ; have q1 := (hBr.below hR hBr.lt).cell 1 ; have q2 := (hBr.below hR hBr.lt).cell 2 ; have q3 := (hBr.below hR hBr.lt).cell 3 ; simp at q0 q1 q2 q3 ; go_simp )
        simp only [Act.put, List.getElem_cons_succ, List.getElem_cons_zero, List.setIfInBounds_toArray, List.set_cons_zero, List.set_cons_succ]
        refine wpR_take 1 (v := ?_) later_moves (by decide) (by kernel_rfl) (by kernel_rfl) (by kernel_rfl) (fun _ _ _ h => h) (wantedT (by rfl) ?_) ?_ ; rotate_left ; · ( intro w' hR ; simp only [List.getElem_cons_succ, List.getElem_cons_zero] ; go_simp ; try with_reducible rfl )
        simp only [Act.put, List.getElem_cons_succ, List.getElem_cons_zero, List.setIfInBounds_toArray, List.set_cons_zero, List.set_cons_succ]
        refine wpR_take 2 (v := .slice (some ⟨b, q, none⟩) rows.length c) later_moves (by decide) (by kernel_rfl) (by kernel_rfl) (by kernel_rfl) (fun _ _ _ h => h) (wantedT (by rfl) ?_) ?_ ; · ( intro w' hR ; simp only [List.getElem_cons_succ, List.getElem_cons_zero] ; have q3 := (hBr.below hR hBr.lt).cell 3 ; simp at q3 ; go_simp )
        simp only [Act.put, List.getElem_cons_succ, List.getElem_cons_zero, List.setIfInBounds_toArray, List.set_cons_zero, List.set_cons_succ]
        refine wpR_take 3 (v := ?_) later_moves (by decide) (by kernel_rfl) (by kernel_rfl) (by kernel_rfl) (fun _ _ _ h => h) (wantedT (by rfl) ?_) ?_ ; rotate_left ; · ( intro w' hR ; simp only [List.getElem_cons_succ, List.getElem_cons_zero] ; go_simp ; try with_reducible rfl )
        simp only [Act.put, List.getElem_cons_succ, List.getElem_cons_zero, List.setIfInBounds_toArray, List.set_cons_zero, List.set_cons_succ]
        refine wpR_take 4 (v := ?_) later_moves (by decide) (by kernel_rfl) (by kernel_rfl) (by kernel_rfl) (fun _ _ _ h => h) (wantedT (by rfl) ?_) ?_ ; rotate_left ; · ( intro w' hR ; simp only [List.getElem_cons_succ, List.getElem_cons_zero] ; go_simp ; try with_reducible rfl )
        simp only [Act.put, List.getElem_cons_succ, List.getElem_cons_zero, List.setIfInBounds_toArray, List.set_cons_zero, List.set_cons_succ]
        refine wpR_take 5 (v := .agg #[x, y, z]) later_moves (by decide) (by kernel_rfl) (by kernel_rfl) (by kernel_rfl) (fun _ _ _ h => h) (wantedT (by rfl) ?_) ?_ ; · ( intro w' hR ; simp only [List.getElem_cons_succ, List.getElem_cons_zero] ; have r0 := later_cell hR h0 ; have r1 := later_cell hR h1 ; have r2 := later_cell hR h2 ; go_simp )
        simp only [Act.put, List.getElem_cons_succ, List.getElem_cons_zero, List.setIfInBounds_toArray, List.set_cons_zero, List.set_cons_succ]
        refine wpR_call 6 later_moves (by decide) (by kernel_rfl) (by rfl) ((rRow_any p pub vars (.slice (some ⟨b, q, none⟩) rows.length c) rows[j] x y z _ hx1 hy1 hz1 hp).mono ?_) (fun _ => by simp only [List.getElem_cons_succ, List.getElem_cons_zero] ; go_simp)
        rintro e w3 ⟨rfl, hb3⟩
        rw [HO.out]
        refine ⟨_, rfl, hb3, ?_⟩
        simp only [Act.put, List.getElem_cons_succ, List.getElem_cons_zero, List.setIfInBounds_toArray, List.set_cons_zero, List.set_cons_succ]
        refine wpR_take 7 (v := ?_) later_moves (by decide) (by kernel_rfl) (by kernel_rfl) (by kernel_rfl) (fun _ _ _ h => h) (wantedT (by rfl) ?_) ?_ ; rotate_left ; · ( intro w' hR ; simp only [List.getElem_cons_succ, List.getElem_cons_zero] ; go_simp ; try with_reducible rfl )
        simp only [Act.put, List.getElem_cons_succ, List.getElem_cons_zero, List.setIfInBounds_toArray, List.set_cons_zero, List.set_cons_succ]
        refine wpR_done (by kernel_rfl) ?_
        go_wp2
        go_roundw
        case rel =>
          refine ⟨j + 1, by omega, by go_num, below_chain hbr.drew hb3, fun k hk h => ?_⟩
          rcases Nat.lt_or_ge k j with h5 | h5
          · exact HB.out k h5 h
          · have e : k = j := by omega
            subst e
            exact HO.out
        case measure => simp [intOf]; omega
    · go_wp2
      go_ret
      have e : j = rows.length := by omega
      refine ⟨by rw [E.out, List.all_eq_true.2 (fun r hr => by obtain ⟨k, hk, rfl⟩ := List.getElem_of_mem hr; exact HB.out k (by omega) hk)]; rfl, below_chain hb1 hbr⟩
end Go.Proofs.Ytefnagiffllhbaa

/- RefF -/
namespace Go.Proofs.Ytefnagiffllhbaa
open Go.RowKit

/-- Whether a list is an assignment. -/
def asgOk (p : Nat) (vars : Int) (l : List Nat) : Bool := !((l.length : Int) != vars) && !((l.length : Int) == 0) && !(((l.getD 0 0 : Nat) : Int) != 1) && l.all fun x => decide (x < p)

/-- A word of a list, read. -/
theorem RWd.at_ {w : World} {A : Option Addr} {l : List Nat} (h : Rd w 1 A l.length (U64 l)) {i : Nat} (hi : i < l.length) : ∃ ad, A = some ad ∧ w.cell? (ad.add i) = some (.int .u64 ((l.getD i 0 : Nat) : Int)) := by
  obtain ⟨ad, u, rfl, hu, hc⟩ := h.at_ hi
  rw [at_U64 hi] at hu
  injection hu with hu
  subst hu
  exact ⟨ad, rfl, by simpa [hi] using hc⟩

set_option maxRecDepth 100000 in
set_option maxHeartbeats 4000000 in
theorem rAssign_any (p : Nat) (pub vars : Int) (T : Value) (A : Option Addr) (n c : Nat) (l : List Nat) (w : World) (hl : RWd w [.slice A n c] l) (_hp : p < 18446744073709551616) :
    Calls Try.prog 50 #[tabV p pub vars T, .slice A n c] w fun e w' => e = .returned (.bool (asgOk p vars l)) ∧ Below w.heap.size w w' := by
  obtain ⟨A', n', c', he, hnc, hmx, hrd, hlt⟩ := hl
  simp at he
  obtain ⟨rfl, rfl, rfl⟩ := he
  have hlen := hrd.len1
  rw [len_U64] at hlen
  subst hlen
  unfold tabV
  have hb0 : ∀ o, Below w.heap.size w (w.alloc o) := fun o => (Below.refl _ w).alloc (Nat.le_refl _) _
  by_cases z1 : (l.length : Int) = vars
  · subst z1
    rcases Nat.eq_zero_or_pos l.length with z2 | z2
    · have E := Lib.hid (show asgOk p (l.length : Int) l = false by simp [asgOk, z2])
      rw [z2]
      rw [z2] at E
      go_enter Try.func50, Try.ntmps50
      go_wp2_with fail
      go_ret
      exact ⟨by rw [E.out]; rfl, hb0 _⟩
    · obtain ⟨ad, rfl, hc⟩ := RWd.at_ (hrd.below (hb0 (.cells #[.int .u64 (p : Int), .int .i64 pub, .int .i64 (l.length : Int), T] 25))) z2
      have g0 : ((l.length : Int) == 0) = false := by rw [beq_eq_false_iff_ne]; omega
      have g1 : (0 : Int) < (l.length : Int) := by omega
      have gm : (l.length : Int) ≤ 9223372036854775807 := by
        have h3 := hnc
        have h4 := hmx
        simp [maxLen] at h4
        omega
      by_cases z3 : l.getD 0 0 = 1
      · have hc0 : (w.alloc (.cells #[.int .u64 (p : Int), .int .i64 pub, .int .i64 (l.length : Int), T] 25)).cell? ad = some (.int .u64 1) := by
          rw [z3] at hc
          simpa [Addr.add] using hc
        have E := Lib.hid (show asgOk p (l.length : Int) l = l.all fun x => decide (x < p) by unfold asgOk; rw [z3, g0]; simp)
        clear hc z3
        go_enter Try.func50, Try.ntmps50
        go_wp2_with fail
        go_loopw [5] (fun i wr => ∃ j kk : Nat, j ≤ l.length ∧ i = .int .i64 (j : Int) ∧ wr = (w.alloc (.cells #[.int .u64 (p : Int), .int .i64 pub, .int .i64 (l.length : Int), T] 25)).drewN kk ∧ Hid (∀ k < j, l.getD k 0 < p))
          (fun i _ => l.length - (intOf i).toNat)
        case atStart => exact ⟨0, 0, Nat.zero_le _, rfl, rfl, fun k hk => by omega⟩
        case round =>
          obtain ⟨j, kk, hj, rfl, rfl, HB⟩ := hrel
          by_cases hjl : j < l.length
          · obtain ⟨ad', he', hc⟩ := RWd.at_ (hrd.below (hb0 (.cells #[.int .u64 (p : Int), .int .i64 pub, .int .i64 (l.length : Int), T] 25))) hjl
            injection he' with he'
            subst he'
            have g2 : (0 : Int) ≤ (j : Int) := by omega
            have g3 : (j : Int) < (l.length : Int) := by omega
            have HL := Lib.hid hjl
            have HY : Hid (l.getD j 0 = l.getD j 0) := rfl
            revert hc HY
            generalize hy : l.getD j 0 = y
            intro hc _
            have HY := Lib.hid hy
            clear hy
            by_cases z4 : p ≤ y
            · have d4 : decide ((p : Int) ≤ (y : Int)) = true := decide_eq_true (by omega)
              have HZ := Lib.hid z4
              clear hrd z4
              go_wp2_with fail
              go_quiet (fail)
              go_wp2
              go_ret
              have HA : (l.all fun x => decide (x < p)) = false := by
                refine List.all_eq_false.2 ⟨l[j]'HL.out, List.getElem_mem HL.out, ?_⟩
                have h1 := HY.out
                have h2 := HZ.out
                simp [HL.out] at h1
                simp [h1]
                omega
              exact ⟨by rw [E.out, HA]; rfl, below_drewN (below_drewN (hb0 _) _) _⟩
            · have d4 : decide ((p : Int) ≤ (y : Int)) = false := decide_eq_false (by omega)
              have HZ := Lib.hid z4
              clear hrd z4
              go_wp2_with fail
              go_quiet (fail)
              go_wp2
              go_roundw
              case rel =>
                refine ⟨j + 1, _, by omega, by go_num, rfl, fun k hk => ?_⟩
                rcases Nat.lt_or_ge k j with h5 | h5
                · exact HB.out k h5
                · have e : k = j := by omega
                  subst e
                  have h1 := HY.out
                  have h2 := HZ.out
                  omega
              case measure => simp [intOf]; omega
          · go_wp2
            go_ret
            have e : j = l.length := by omega
            have HA : (l.all fun x => decide (x < p)) = true := by
              refine List.all_eq_true.2 ?_
              intro x hx
              obtain ⟨k, hk, rfl⟩ := List.getElem_of_mem hx
              have := HB.out k (by omega)
              simpa [hk] using this
            exact ⟨by rw [E.out, HA]; rfl, below_drewN (hb0 _) _⟩
      · have hc0 : (w.alloc (.cells #[.int .u64 (p : Int), .int .i64 pub, .int .i64 (l.length : Int), T] 25)).cell? ad = some (.int .u64 ((l.getD 0 0 : Nat) : Int)) := by simpa [Addr.add] using hc
        have d3 : (((l.getD 0 0 : Nat) : Int) != 1) = true := by rw [bne_iff_ne]; omega
        have E := Lib.hid (show asgOk p (l.length : Int) l = false by unfold asgOk; rw [d3]; simp)
        clear hc z3
        revert hc0 d3
        generalize l.getD 0 0 = y
        intro hc0 d3
        go_enter Try.func50, Try.ntmps50
        go_wp2_with fail
        go_ret
        exact ⟨by rw [E.out]; rfl, hb0 _⟩
  · have d1 : ((l.length : Int) != vars) = true := by rw [bne_iff_ne]; exact z1
    have E := Lib.hid (show asgOk p vars l = false by simp [asgOk, z1])
    go_enter Try.func50, Try.ntmps50
    go_wp2_with fail
    go_ret
    exact ⟨by rw [E.out]; rfl, hb0 _⟩

/-- A quotient, rounded up. -/
theorem up_any (n k : Nat) (w : World) (hn : n ≤ 1000000000) (hk : 0 < k) (hk2 : k ≤ 1000000000) :
    Calls Try.prog 92 #[.int .i64 (n : Int), .int .i64 (k : Int)] w fun e w' => e = .returned (.int .i64 (((n + k - 1) / k : Nat) : Int)) ∧ w' = w := by
  obtain ⟨m, rfl⟩ : ∃ m, k = m + 1 := ⟨k - 1, by omega⟩
  have e1 : Hid (((n + (m + 1) - 1) / (m + 1) : Nat) = (n + m) / (m + 1)) := rfl
  go_enter Try.func92, Try.ntmps92
  go_wp2_with fail
  go_ret
  refine ⟨?_, rfl⟩
  show Ending.returned (.int .i64 (((n : Int) + ((m : Int) + 1) - 1) / ((m : Int) + 1))) = _
  rw [show (n : Int) + ((m : Int) + 1) - 1 = ((n + (m + 1) - 1 : Nat) : Int) from by omega]
  rfl
end Go.Proofs.Ytefnagiffllhbaa
