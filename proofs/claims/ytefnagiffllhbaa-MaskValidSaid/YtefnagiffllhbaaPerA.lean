/-
  The program's permutation: Constant, Mix.
-/
import Derived.Test.YtefnagiffllhbaaFldC
namespace Go.Proofs.Ytefnagiffllhbaa
open Go.RowKit

/-- The permutation's state. -/
structure St where
  a : Nat
  b : Nat
  c : Nat
def St.val (s : St) : Value := .agg #[.int .u64 (s.a : Int), .int .u64 (s.b : Int), .int .u64 (s.c : Int)]
def St.cs (s : St) : Array Value := #[.int .u64 (s.a : Int), .int .u64 (s.b : Int), .int .u64 (s.c : Int)]
def St.ok (s : St) : Prop := s.a < 18446744073709551616 ∧ s.b < 18446744073709551616 ∧ s.c < 18446744073709551616
def mulW (k : Nat) : Nat := k * 11400714819323198485 % 18446744073709551616
/-- A round's constant. -/
def consP (p r i : Nat) : Nat := mulW (3 * r + i + 1) % p
def mixSum (p : Nat) (s : St) : Nat := ((s.a + s.b) % p + s.c) % p
def mixP (p : Nat) (s : St) : St := ⟨(s.a + mixSum p s) % p, (s.b + mixSum p s) % p, (s.c + mixSum p s) % p⟩

set_option maxRecDepth 100000 in
set_option maxHeartbeats 400000 in
theorem pConst_any (p r i : Nat) (w : World) (hp : okP p = true) (hr : r < 8) (hi : i < 3) :
    Calls Try.prog 110 #[.int .u64 p, .int .i64 (r : Int), .int .i64 (i : Int)] w fun e w' => e = .returned (.int .u64 (consP p r i : Int)) ∧ Below w.heap.size w w' := by
  have HR := Lib.hid (fun w => fReduce_any p (mulW (3 * r + i + 1)) w hp)
  have HC := Lib.hid (show consP p r i = mulW (3 * r + i + 1) % p from rfl)
  rw [HC.out]
  clear HC hp
  obtain ⟨k, hk⟩ : ∃ k, k = 3 * r + i + 1 := ⟨_, rfl⟩
  rw [← hk] at HR ⊢
  have g1 : (r : Int) < 8 := by omega
  have g2 : (i : Int) ≤ 2 := by omega
  have e1 : 3 * (r : Int) + (i : Int) + 1 = (k : Int) := by omega
  have e2 : IntKind.u64.wrap (k : Int) = (k : Int) := wr_nat _ (by omega)
  have e3 : IntKind.u64.wrap ((k : Int) * 11400714819323198485) = (mulW k : Int) := by
    rw [IntKind.wrap_u64]
    have : ((k : Int) * 11400714819323198485) = ((k * 11400714819323198485 : Nat) : Int) := by rw [Int.natCast_mul]; rfl
    rw [this]
    rfl
  clear hk hr hi
  generalize mulW k % p = m at *
  generalize mulW k = z at *
  unfold fv at *
  go_enter Try.func110, Try.ntmps110
  go_wp2_with fail
  refine (HR.out _).mono ?_
  rintro e w1 ⟨rfl, hb⟩
  go_wp2
  go_ret
  exact ⟨rfl, hb⟩

set_option maxRecDepth 100000 in
set_option maxHeartbeats 400000 in
theorem pMix_any (p : Nat) (s : St) (w : World) (hp : okP p = true) :
    Calls Try.prog 111 #[.int .u64 p, s.val] w fun e w' => e = .returned (mixP p s).val ∧ Below w.heap.size w w' := by
  obtain ⟨a, b, c⟩ := s
  have H1 := Lib.hid (fun w => fAdd_any p a b w hp)
  have H2 := Lib.hid (fun w => fAdd_any p ((a + b) % p) c w hp)
  have H3 := Lib.hid (fun w => fAdd_any p a (mixSum p ⟨a, b, c⟩) w hp)
  have H4 := Lib.hid (fun w => fAdd_any p b (mixSum p ⟨a, b, c⟩) w hp)
  have H5 := Lib.hid (fun w => fAdd_any p c (mixSum p ⟨a, b, c⟩) w hp)
  have HM := Lib.hid (show (mixP p ⟨a, b, c⟩).val = .agg #[.int .u64 (((a + mixSum p ⟨a, b, c⟩) % p : Nat) : Int), .int .u64 (((b + mixSum p ⟨a, b, c⟩) % p : Nat) : Int), .int .u64 (((c + mixSum p ⟨a, b, c⟩) % p : Nat) : Int)] from rfl)
  rw [HM.out]
  have HS := Lib.hid (show ((a + b) % p + c) % p = mixSum p ⟨a, b, c⟩ from rfl)
  rw [HS.out] at H2
  clear HM HS hp
  generalize (a + mixSum p ⟨a, b, c⟩) % p = x at *
  generalize (b + mixSum p ⟨a, b, c⟩) % p = y at *
  generalize (c + mixSum p ⟨a, b, c⟩) % p = z at *
  generalize mixSum p ⟨a, b, c⟩ = m at *
  generalize (a + b) % p = ab at *
  unfold St.val
  unfold fv at *
  simp only
  obtain ⟨k1, k2, k3, hb0, hsz⟩ := boxes3 w 120 120 88 #[.int .u64 (a : Int), .int .u64 (b : Int), .int .u64 (c : Int)] #[.int .u64 0, .int .u64 0, .int .u64 0] #[.int .u64 (p : Int)]
  go_enter Try.func111, Try.ntmps111
  go_wp2_with fail
  generalize ((w.alloc _).alloc _).alloc _ = w0 at k1 k2 k3 hb0 hsz ⊢
  have c1 := k1.cell
  have c3 := k3.cell
  have l1 := k1.lt
  have l3 := k3.lt
  refine wpGO_begin (Later) (later_moves) [] [] [0, 1, 2, 3, 4, 5, 6, 7, 8, 9, 10] (by kernel_rfl) (by kernel_rfl) ?_
  refine wpGO_start (later_moves) ?_
  intro Wc hacc
  repeat (first | (refine wpGO_skip (later_moves) rfl rfl rfl rfl (fun _ _ _ h => h) ?_ ; simp only [Act.put, List.setIfInBounds_toArray, List.set_cons_zero, List.set_cons_succ]) | (refine wpGO_light (v := ?_) (later_moves) rfl rfl rfl rfl (fun _ _ _ h => h) ?_ ?_ ; rotate_left ; (· (intro w' hR ; (first | have hcells := later_cellsD ((later_moves).trans _ _ _ hacc hR) | skip) ; go_simp ; try with_reducible rfl)) ; simp only [Act.put, List.setIfInBounds_toArray, List.set_cons_zero, List.set_cons_succ]))
  refine wpGO_call (later_moves) rfl rfl rfl rfl (fun _ _ _ h => h) (fun _ => by go_simp <;> rfl) (fun w' hR => H1.out _) ?_
  simp only [Act.put, List.setIfInBounds_toArray, List.set_cons_zero, List.set_cons_succ]
  repeat (first | (refine wpGO_skip (later_moves) rfl rfl rfl rfl (fun _ _ _ h => h) ?_ ; simp only [Act.put, List.setIfInBounds_toArray, List.set_cons_zero, List.set_cons_succ]) | (refine wpGO_light (v := ?_) (later_moves) rfl rfl rfl rfl (fun _ _ _ h => h) ?_ ?_ ; rotate_left ; (· (intro w' hR ; (first | have hcells := later_cellsD ((later_moves).trans _ _ _ hacc hR) | skip) ; go_simp ; try with_reducible rfl)) ; simp only [Act.put, List.setIfInBounds_toArray, List.set_cons_zero, List.set_cons_succ]))
  refine wpGO_call (later_moves) rfl rfl rfl rfl (fun _ _ _ h => h) (fun _ => by go_simp <;> rfl) (fun w' hR => H2.out _) ?_
  simp only [Act.put, List.setIfInBounds_toArray, List.set_cons_zero, List.set_cons_succ]
  repeat (first | (refine wpGO_skip (later_moves) rfl rfl rfl rfl (fun _ _ _ h => h) ?_ ; simp only [Act.put, List.setIfInBounds_toArray, List.set_cons_zero, List.set_cons_succ]) | (refine wpGO_light (v := ?_) (later_moves) rfl rfl rfl rfl (fun _ _ _ h => h) ?_ ?_ ; rotate_left ; (· (intro w' hR ; (first | have hcells := later_cellsD ((later_moves).trans _ _ _ hacc hR) | skip) ; go_simp ; try with_reducible rfl)) ; simp only [Act.put, List.setIfInBounds_toArray, List.set_cons_zero, List.set_cons_succ]))
  refine wpGO_done rfl ?_
  intro wd hRd
  replace hacc := (later_moves).trans _ _ _ hacc hRd
  clear hRd
  replace k1 := k1.drew.below hacc k1.lt
  replace k2 := k2.drew.below hacc k2.lt
  replace k3 := k3.drew.below hacc k3.lt
  replace hb0 := below_chain hb0.drew hacc
  have hsw : w.heap.size + 1 < wd.heap.size := k2.lt
  clear c1 c3 l1 l3 hacc hsz H1 H2
  have c1 := k1.cell
  have c3 := k3.cell
  have l1 := k1.lt
  have l3 := k3.lt
  go_wp2_with fail
  refine wpGO_begin (Later) (later_moves) [16] [16] [0, 1, 2, 3, 4, 5, 6, 7, 8, 9, 10, 11, 12, 13, 14, 15, 16] (by kernel_rfl) (by kernel_rfl) ?_
  refine wpGO_start (later_moves) ?_
  intro Wc hacc
  repeat (first | (refine wpGO_skip (later_moves) rfl rfl rfl rfl (fun _ _ _ h => h) ?_ ; simp only [Act.put, List.setIfInBounds_toArray, List.set_cons_zero, List.set_cons_succ]) | (refine wpGO_light (v := ?_) (later_moves) rfl rfl rfl rfl (fun _ _ _ h => h) ?_ ?_ ; rotate_left ; (· (intro w' hR ; (first | have hcells := later_cellsD ((later_moves).trans _ _ _ hacc hR) | skip) ; go_simp ; try with_reducible rfl)) ; simp only [Act.put, List.setIfInBounds_toArray, List.set_cons_zero, List.set_cons_succ]) | (refine wpGO_free (v := ?_) rfl rfl rfl rfl (fun _ _ _ h => h) ?_ ?_ ; rotate_left ; (· (intro w' ; go_simp ; try with_reducible rfl)) ; simp only [Act.put, List.setIfInBounds_toArray, List.set_cons_zero, List.set_cons_succ]))
  refine wpGO_call (later_moves) rfl rfl rfl rfl (fun _ _ _ h => h) (fun _ => by go_simp <;> rfl) (fun w' hR => H3.out _) ?_
  simp only [Act.put, List.setIfInBounds_toArray, List.set_cons_zero, List.set_cons_succ]
  repeat (first | (refine wpGO_skip (later_moves) rfl rfl rfl rfl (fun _ _ _ h => h) ?_ ; simp only [Act.put, List.setIfInBounds_toArray, List.set_cons_zero, List.set_cons_succ]) | (refine wpGO_light (v := ?_) (later_moves) rfl rfl rfl rfl (fun _ _ _ h => h) ?_ ?_ ; rotate_left ; (· (intro w' hR ; (first | have hcells := later_cellsD ((later_moves).trans _ _ _ hacc hR) | skip) ; go_simp ; try with_reducible rfl)) ; simp only [Act.put, List.setIfInBounds_toArray, List.set_cons_zero, List.set_cons_succ]) | (refine wpGO_free (v := ?_) rfl rfl rfl rfl (fun _ _ _ h => h) ?_ ?_ ; rotate_left ; (· (intro w' ; go_simp ; try with_reducible rfl)) ; simp only [Act.put, List.setIfInBounds_toArray, List.set_cons_zero, List.set_cons_succ]))
  refine wpGO_call (later_moves) rfl rfl rfl rfl (fun _ _ _ h => h) (fun _ => by go_simp <;> rfl) (fun w' hR => H4.out _) ?_
  simp only [Act.put, List.setIfInBounds_toArray, List.set_cons_zero, List.set_cons_succ]
  repeat (first | (refine wpGO_skip (later_moves) rfl rfl rfl rfl (fun _ _ _ h => h) ?_ ; simp only [Act.put, List.setIfInBounds_toArray, List.set_cons_zero, List.set_cons_succ]) | (refine wpGO_light (v := ?_) (later_moves) rfl rfl rfl rfl (fun _ _ _ h => h) ?_ ?_ ; rotate_left ; (· (intro w' hR ; (first | have hcells := later_cellsD ((later_moves).trans _ _ _ hacc hR) | skip) ; go_simp ; try with_reducible rfl)) ; simp only [Act.put, List.setIfInBounds_toArray, List.set_cons_zero, List.set_cons_succ]) | (refine wpGO_free (v := ?_) rfl rfl rfl rfl (fun _ _ _ h => h) ?_ ?_ ; rotate_left ; (· (intro w' ; go_simp ; try with_reducible rfl)) ; simp only [Act.put, List.setIfInBounds_toArray, List.set_cons_zero, List.set_cons_succ]))
  refine wpGO_call (later_moves) rfl rfl rfl rfl (fun _ _ _ h => h) (fun _ => by go_simp <;> rfl) (fun w' hR => H5.out _) ?_
  simp only [Act.put, List.setIfInBounds_toArray, List.set_cons_zero, List.set_cons_succ]
  repeat (first | (refine wpGO_skip (later_moves) rfl rfl rfl rfl (fun _ _ _ h => h) ?_ ; simp only [Act.put, List.setIfInBounds_toArray, List.set_cons_zero, List.set_cons_succ]) | (refine wpGO_light (v := ?_) (later_moves) rfl rfl rfl rfl (fun _ _ _ h => h) ?_ ?_ ; rotate_left ; (· (intro w' hR ; (first | have hcells := later_cellsD ((later_moves).trans _ _ _ hacc hR) | skip) ; go_simp ; try with_reducible rfl)) ; simp only [Act.put, List.setIfInBounds_toArray, List.set_cons_zero, List.set_cons_succ]) | (refine wpGO_free (v := ?_) rfl rfl rfl rfl (fun _ _ _ h => h) ?_ ?_ ; rotate_left ; (· (intro w' ; go_simp ; try with_reducible rfl)) ; simp only [Act.put, List.setIfInBounds_toArray, List.set_cons_zero, List.set_cons_succ]))
  refine wpGO_heavy rfl rfl rfl rfl ?_
  intro wh hRh
  replace hacc := (later_moves).trans _ _ _ hacc hRh
  replace k2 := k2.drew.below hacc k2.lt
  replace hb0 := below_chain hb0.drew hacc
  have c2 := k2.cell
  have f2 := k2.frozen
  have l2 := k2.lt
  go_simp
  refine ⟨fun h => Bool.noConfusion h, ?_⟩
  have hg := set3_grown (w := wh) (g := w.heap.size + 1) (.int .u64 (x : Int)) (.int .u64 (y : Int)) (.int .u64 (z : Int))
  have kz := set3_blk k2 (.int .u64 (x : Int)) (.int .u64 (y : Int)) (.int .u64 (z : Int))
  clear c2 f2 k2
  generalize ((World.setCell wh _ _).setCell _ _).setCell _ _ = Wf at hg kz ⊢
  have cz := kz.cell
  refine wpGO_doneP rfl ?_
  go_wp2
  exact bodyPost_ret (v := .agg #[.int .u64 (x : Int), .int .u64 (y : Int), .int .u64 (z : Int)]) (by simp [results, Try.results111, go_sem, cz]) rfl ⟨rfl, hb0.trans (below_of_only hg (by omega) (by omega))⟩
end Go.Proofs.Ytefnagiffllhbaa

