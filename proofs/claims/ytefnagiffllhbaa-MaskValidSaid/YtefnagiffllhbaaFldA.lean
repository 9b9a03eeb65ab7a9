/-
  The program's field: Valid, reduced, add, mul, numbers, Generator, Exponent, Reduce, Add, Mul, Neg.
-/
import Derived.Test.YtefnagiffllhbaaRefH
import Derived.Test.YtefnagiffllhbaaOrdG
import Derived.Shelf.Spec.BitsCarry
namespace Go.Proofs.Ytefnagiffllhbaa
open Go.RowKit

def ren25 : Go.Shelf.Ren := ⟨fun | 25 => 115 | n => n, fun | 22 => 22 | n => n, fun n => n⟩
theorem lays25 : Go.Proofs.Lays7.n25 Try.prog ren25 := { mixed := by kernel_rfl, f25 := by kernel_rfl, t22 := by kernel_rfl, a22 := fun _ => by kernel_rfl, z22 := fun _ => by kernel_rfl, v22 := fun _ => by kernel_rfl, i22 := by kernel_rfl }
theorem run_add64 (x y : Nat) (w : World) : (callFunc 115 #[.int .u64 (x : Int), .int .u64 (y : Int), .int .u64 0]).run Try.prog w =
    .ok (.value (.tuple #[.int .u64 (((x + y) % 18446744073709551616 : Nat) : Int), .int .u64 (((x + y) / 18446744073709551616 : Nat) : Int)])) w :=
  Any7.bits_Add64 lays25 x y 0 (by omega) w

/-- The value of a field. -/
def fv (p : Nat) : Value := .agg #[.int .u64 (p : Int)]

set_option maxRecDepth 100000 in
set_option maxHeartbeats 1000000 in
theorem fValid_any (p : Nat) (w : World) (hp : okP p = true) :
    Calls Try.prog 69 #[fv p] w fun e w' => e = .returned (.bool true) ∧ Below w.heap.size w w' := by
  unfold fv
  rcases okP_cases hp with rfl | rfl | rfl | rfl | rfl | rfl | rfl <;>
  · go_enter Try.func69, Try.ntmps69
    go_wp2_with fail
    go_ret
    exact ⟨rfl, (Below.refl _ _).alloc (Nat.le_refl _) _⟩

set_option maxRecDepth 100000 in
set_option maxHeartbeats 1000000 in
theorem fNumbers_any (p : Nat) (w : World) (hp : okP p = true) :
    Calls Try.prog 96 #[fv p] w fun e w' => e = .returned (.tuple #[.int .u64 ((rowOf p).1 : Int), .int .i64 ((rowOf p).2.1 : Int), .int .u64 ((rowOf p).2.2 : Int)]) ∧ Below w.heap.size w w' := by
  unfold fv
  rcases okP_cases hp with rfl | rfl | rfl | rfl | rfl | rfl | rfl <;>
  · go_enter Try.func96, Try.ntmps96
    go_wp2_with fail
    go_ret3
    exact ⟨rfl, (Below.refl _ _).alloc (Nat.le_refl _) _⟩

set_option maxRecDepth 100000 in
set_option maxHeartbeats 400000 in
theorem fGen_any (p : Nat) (w : World) (hp : okP p = true) :
    Calls Try.prog 59 #[fv p] w fun e w' => e = .returned (.int .u64 ((rowOf p).1 : Int)) ∧ Below w.heap.size w w' := by
  have H := Lib.hid (fun w => fNumbers_any p w hp)
  clear hp
  unfold fv at *
  generalize rowOf p = r at *
  obtain ⟨a, b, c⟩ := r
  go_enter Try.func59, Try.ntmps59
  go_wp2_with (go_at_call 96; refine (H.out _).mono ?_; rintro e w1 ⟨rfl, hb⟩)
  go_ret
  exact ⟨rfl, below_chain ((Below.refl _ _).alloc (Nat.le_refl _) _) hb⟩

set_option maxRecDepth 100000 in
set_option maxHeartbeats 400000 in
theorem fExp_any (p : Nat) (w : World) (hp : okP p = true) :
    Calls Try.prog 109 #[fv p] w fun e w' => e = .returned (.int .u64 ((rowOf p).2.2 : Int)) ∧ Below w.heap.size w w' := by
  have H := Lib.hid (fun w => fNumbers_any p w hp)
  clear hp
  unfold fv at *
  generalize rowOf p = r at *
  obtain ⟨a, b, c⟩ := r
  go_enter Try.func109, Try.ntmps109
  go_wp2_with (go_at_call 96; refine (H.out _).mono ?_; rintro e w1 ⟨rfl, hb⟩)
  go_ret
  exact ⟨rfl, below_chain ((Below.refl _ _).alloc (Nat.le_refl _) _) hb⟩

set_option maxRecDepth 100000 in
set_option maxHeartbeats 400000 in
theorem fReduced_any (p n : Nat) (w : World) (hp : 0 < p) :
    Calls Try.prog 85 #[fv p, .int .u64 n] w fun e w' => e = .returned (.int .u64 ((n % p : Nat) : Int)) ∧ Below w.heap.size w w' := by
  unfold fv
  have p1 : (0 : Int) < (p : Int) := by omega
  have e1 : (n : Int) % (p : Int) = ((n % p : Nat) : Int) := rfl
  have e2 : (n : Int).tmod (p : Int) = ((n % p : Nat) : Int) := rfl
  by_cases h : p ≤ n
  · have g : (p : Int) ≤ (n : Int) := by omega
    revert e1 e2
    generalize n % p = r
    intro e1 e2
    go_enter Try.func85, Try.ntmps85
    go_wp2_with fail
    go_ret
    exact ⟨rfl, (Below.refl _ _).alloc (Nat.le_refl _) _⟩
  · have g : ¬ ((p : Int) ≤ (n : Int)) := by omega
    have HE := Lib.hid (Nat.mod_eq_of_lt (show n < p by omega))
    clear e1 e2
    rw [HE.out]
    go_enter Try.func85, Try.ntmps85
    go_wp2_with fail
    go_ret
    exact ⟨rfl, (Below.refl _ _).alloc (Nat.le_refl _) _⟩

set_option maxRecDepth 100000 in
set_option maxHeartbeats 400000 in
theorem fmul_any (p a b : Nat) (w : World) (hp : okP p = true) (ha : a < p) (hb : b < p) :
    Calls Try.prog 103 #[fv p, .int .u64 a, .int .u64 b] w fun e w' => e = .returned (.int .u64 ((a * b % p : Nat) : Int)) ∧ Below w.heap.size w w' := by
  obtain ⟨h1, h2⟩ := okP_lt hp
  unfold fv
  have hhi : a * b / 18446744073709551616 < p := by
    have : a * b ≤ p * 18446744073709551615 := Nat.mul_le_mul (by omega) (by omega)
    rw [Nat.div_lt_iff_lt_mul (by omega)]
    omega
  have hlo : a * b % 18446744073709551616 < 18446744073709551616 := Nat.mod_lt _ (by omega)
  have hXY := Nat.div_add_mod (a * b) 18446744073709551616
  rw [Nat.mul_comm 18446744073709551616] at hXY
  have HM := Lib.hid (fun w => mul64_any a b w (by omega) (by omega))
  revert hhi hlo hXY HM
  generalize a * b / 18446744073709551616 = hi
  generalize a * b % 18446744073709551616 = lo
  intro hhi hlo hXY HM
  have HD := Lib.hid (fun w => div64_any hi lo p w hhi hlo h2)
  rw [hXY] at HD
  clear h1 h2 ha hb hhi hlo hXY hp
  revert HD
  generalize a * b / p = q
  generalize a * b % p = r
  intro HD
  go_enter Try.func103, Try.ntmps103
  go_wp2_with fail
  refine (HM.out _).mono ?_
  rintro e w1 ⟨rfl, rfl⟩
  go_wp2_with fail
  refine (HD.out _).mono ?_
  rintro e w3 ⟨rfl, k, rfl⟩
  go_wp2
  go_ret
  exact ⟨rfl, below_drewN' ((Below.refl _ _).alloc (Nat.le_refl _) _) _⟩

set_option maxRecDepth 100000 in
set_option maxHeartbeats 400000 in
theorem fadd_any (p a b : Nat) (w : World) (hp : okP p = true) (ha : a < p) (hb : b < p) :
    Calls Try.prog 104 #[fv p, .int .u64 a, .int .u64 b] w fun e w' => e = .returned (.int .u64 (((a + b) % p : Nat) : Int)) ∧ Below w.heap.size w w' := by
  obtain ⟨h1, h2⟩ := okP_lt hp
  unfold fv
  have hrun := run_add64 a b
  obtain ⟨s, hs⟩ : ∃ s, s = (a + b) % 18446744073709551616 := ⟨_, rfl⟩
  obtain ⟨c, hc⟩ : ∃ c, c = (a + b) / 18446744073709551616 := ⟨_, rfl⟩
  rw [← hs, ← hc] at hrun
  by_cases z : c = 0
  · have d1 : ((c : Int) != 0) = false := by rw [bne_eq_false_iff_eq]; omega
    have d1' : (c : Int) = 0 := by omega
    by_cases hge : p ≤ s
    · have d2 : (p : Int) ≤ (s : Int) := by omega
      have e : IntKind.u64.wrap ((s : Int) - (p : Int)) = (((a + b) % p : Nat) : Int) := by
        rw [wr_sub s p hge (by omega)]
        congr 1
        have e1 : s = a + b := by omega
        rw [e1, Nat.mod_eq_sub_mod (by omega), Nat.mod_eq_of_lt (by omega)]
      generalize (a + b) % p = r at *
      clear hs hc hp z ha hb h1 h2 d1'
      go_enter Try.func104, Try.ntmps104
      go_wp2_with fail
      go_ret
      exact ⟨rfl, (Below.refl _ _).alloc (Nat.le_refl _) _⟩
    · have d2 : ¬ ((p : Int) ≤ (s : Int)) := by omega
      have e : s = (a + b) % p := by
        have e1 : s = a + b := by omega
        rw [e1, Nat.mod_eq_of_lt (by omega)]
      have HE := Lib.hid e
      clear hs hc hp z ha hb h1 h2 d1' e
      rw [← HE.out]
      go_enter Try.func104, Try.ntmps104
      go_wp2_with fail
      go_ret
      exact ⟨rfl, (Below.refl _ _).alloc (Nat.le_refl _) _⟩
  · have d1 : ((c : Int) != 0) = true := by rw [bne_iff_ne]; omega
    have e : IntKind.u64.wrap ((s : Int) - (p : Int)) = (((a + b) % p : Nat) : Int) := by
      have e1 : (a + b) % p = a + b - p := by rw [Nat.mod_eq_sub_mod (by omega), Nat.mod_eq_of_lt (by omega)]
      rw [e1, IntKind.wrap_u64]
      omega
    generalize (a + b) % p = r at *
    clear hs hc hp z ha hb h1 h2
    go_enter Try.func104, Try.ntmps104
    go_wp2_with fail
    go_ret
    exact ⟨rfl, (Below.refl _ _).alloc (Nat.le_refl _) _⟩

set_option maxRecDepth 100000 in
set_option maxHeartbeats 400000 in
theorem fReduce_any (p n : Nat) (w : World) (hp : okP p = true) :
    Calls Try.prog 60 #[fv p, .int .u64 n] w fun e w' => e = .returned (.int .u64 ((n % p : Nat) : Int)) ∧ Below w.heap.size w w' := by
  have HV := Lib.hid (fun w => fValid_any p w hp)
  have HR := Lib.hid (fun w => fReduced_any p n w (by have := okP_lt hp; omega))
  clear hp
  unfold fv at *
  generalize n % p = r at *
  have hb0 : Below w.heap.size w (w.alloc (.cells #[.int .u64 (p : Int)] 88)) := (Below.refl _ _).alloc (Nat.le_refl _) _
  have kf := Blk.new w 88 #[.int .u64 (p : Int)]
  go_enter Try.func60, Try.ntmps60
  go_wp2_with fail
  refine (HV.out _).mono ?_
  rintro e w1 ⟨rfl, hb1⟩
  replace kf := kf.below hb1 kf.lt
  replace hb0 := below_chain hb0 hb1
  clear hb1
  have cf := kf.cell
  go_wp2_with fail
  refine (HR.out _).mono ?_
  rintro e w2 ⟨rfl, hb2⟩
  go_wp2
  go_ret
  exact ⟨rfl, below_chain hb0 hb2⟩

set_option maxRecDepth 100000 in
set_option maxHeartbeats 400000 in
theorem fAdd_any (p a b : Nat) (w : World) (hp : okP p = true) :
    Calls Try.prog 75 #[fv p, .int .u64 a, .int .u64 b] w fun e w' => e = .returned (.int .u64 (((a + b) % p : Nat) : Int)) ∧ Below w.heap.size w w' := by
  have hpp : 0 < p := by have := okP_lt hp; omega
  have HV := Lib.hid (fun w => fValid_any p w hp)
  have HA := Lib.hid (fun w => fReduced_any p a w hpp)
  have HB := Lib.hid (fun w => fReduced_any p b w hpp)
  have HS := Lib.hid (fun w => fadd_any p (a % p) (b % p) w hp (Nat.mod_lt _ hpp) (Nat.mod_lt _ hpp))
  rw [← Nat.add_mod] at HS
  clear hp hpp
  unfold fv at *
  generalize (a + b) % p = r at *
  generalize a % p = x at *
  generalize b % p = y at *
  have hb0 : Below w.heap.size w (w.alloc (.cells #[.int .u64 (p : Int)] 88)) := (Below.refl _ _).alloc (Nat.le_refl _) _
  have kf := Blk.new w 88 #[.int .u64 (p : Int)]
  go_enter Try.func75, Try.ntmps75
  go_wp2_with fail
  refine (HV.out _).mono ?_
  rintro e w1 ⟨rfl, hb1⟩
  replace kf := kf.below hb1 kf.lt
  replace hb0 := below_chain hb0 hb1
  clear hb1
  have cf := kf.cell
  have lf := kf.lt
  go_wp2_with fail
  refine wpGO_begin (Later) (later_moves) [] [] [0, 1, 2, 3, 4, 5, 6, 7, 8] (by kernel_rfl) (by kernel_rfl) ?_
  refine wpGO_start (later_moves) ?_
  intro Wc hacc
  repeat (first | (refine wpGO_skip (later_moves) rfl rfl rfl rfl (fun _ _ _ h => h) ?_ ; simp only [Act.put, List.setIfInBounds_toArray, List.set_cons_zero, List.set_cons_succ]) | (refine wpGO_light (v := ?_) (later_moves) rfl rfl rfl rfl (fun _ _ _ h => h) ?_ ?_ ; rotate_left ; (· (intro w' hR ; (first | have hcells := later_cellsD ((later_moves).trans _ _ _ hacc hR) | skip) ; go_simp ; try with_reducible rfl)) ; simp only [Act.put, List.setIfInBounds_toArray, List.set_cons_zero, List.set_cons_succ]))
  refine wpGO_call (later_moves) rfl rfl rfl rfl (fun _ _ _ h => h) (fun _ => by go_simp <;> rfl) (fun w' hR => HA.out _) ?_
  simp only [Act.put, List.setIfInBounds_toArray, List.set_cons_zero, List.set_cons_succ]
  repeat (first | (refine wpGO_skip (later_moves) rfl rfl rfl rfl (fun _ _ _ h => h) ?_ ; simp only [Act.put, List.setIfInBounds_toArray, List.set_cons_zero, List.set_cons_succ]) | (refine wpGO_light (v := ?_) (later_moves) rfl rfl rfl rfl (fun _ _ _ h => h) ?_ ?_ ; rotate_left ; (· (intro w' hR ; (first | have hcells := later_cellsD ((later_moves).trans _ _ _ hacc hR) | skip) ; go_simp ; try with_reducible rfl)) ; simp only [Act.put, List.setIfInBounds_toArray, List.set_cons_zero, List.set_cons_succ]))
  refine wpGO_call (later_moves) rfl rfl rfl rfl (fun _ _ _ h => h) (fun _ => by go_simp <;> rfl) (fun w' hR => HB.out _) ?_
  simp only [Act.put, List.setIfInBounds_toArray, List.set_cons_zero, List.set_cons_succ]
  repeat (first | (refine wpGO_skip (later_moves) rfl rfl rfl rfl (fun _ _ _ h => h) ?_ ; simp only [Act.put, List.setIfInBounds_toArray, List.set_cons_zero, List.set_cons_succ]) | (refine wpGO_light (v := ?_) (later_moves) rfl rfl rfl rfl (fun _ _ _ h => h) ?_ ?_ ; rotate_left ; (· (intro w' hR ; (first | have hcells := later_cellsD ((later_moves).trans _ _ _ hacc hR) | skip) ; go_simp ; try with_reducible rfl)) ; simp only [Act.put, List.setIfInBounds_toArray, List.set_cons_zero, List.set_cons_succ]))
  refine wpGO_call (later_moves) rfl rfl rfl rfl (fun _ _ _ h => h) (fun _ => by go_simp <;> rfl) (fun w' hR => HS.out _) ?_
  simp only [Act.put, List.setIfInBounds_toArray, List.set_cons_zero, List.set_cons_succ]
  repeat (first | (refine wpGO_skip (later_moves) rfl rfl rfl rfl (fun _ _ _ h => h) ?_ ; simp only [Act.put, List.setIfInBounds_toArray, List.set_cons_zero, List.set_cons_succ]) | (refine wpGO_light (v := ?_) (later_moves) rfl rfl rfl rfl (fun _ _ _ h => h) ?_ ?_ ; rotate_left ; (· (intro w' hR ; (first | have hcells := later_cellsD ((later_moves).trans _ _ _ hacc hR) | skip) ; go_simp ; try with_reducible rfl)) ; simp only [Act.put, List.setIfInBounds_toArray, List.set_cons_zero, List.set_cons_succ]))
  refine wpGO_done rfl ?_
  intro wd hRd
  replace hacc := (later_moves).trans _ _ _ hacc hRd
  clear hRd
  go_wp2
  go_ret
  exact ⟨rfl, below_chain hb0.drew hacc⟩
end Go.Proofs.Ytefnagiffllhbaa

