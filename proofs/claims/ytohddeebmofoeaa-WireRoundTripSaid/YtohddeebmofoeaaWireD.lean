/-
  The law's awake; WireNumbers, WireLists.
-/
import Derived.Test.YtohddeebmofoeaaWireC
import Derived.Test.YtohddeebmofoeaaRegion
import Derived.Test.YtohddeebmofoeaaFits
namespace Go.Proofs.Ytohddeebmofoeaa
open Go.RowKit

theorem conv_op {P : Program} {w : World} {src e dst : TypeId} {A : Option Addr} {n c : Nat} {l : List Nat} {o : Oper} {ρ : Operand → Value} {x : Operand} (hs : P.underlying src = some (.slice e)) (he : P.underlying e = some (.int .u8)) (hd : P.underlying dst = some .string)
    (ho : o.op = .convert src dst x) (hx : ρ x = .slice A n c) (h : Rd w 1 A n (U8 l)) : (execOp ρ o).run P w = .ok (.value (.string (S l))) w := by
  have hr := run_str_rd (c := c) hs he hd h
  unfold execOp
  simp only [ho, hx]
  simp [hr, Result.andThen]

theorem u8_9 : U8 [9] = [.int .u8 9] := rfl
theorem awake_s1 : ((S (9 :: digs (lenOf 258) 4)).toList == [9, 2, 1, 0, 0]) = true := by
  rw [S_toList]
  decide +kernel
theorem awake_s2 : ((S (digs 2 4 ++ (digs 5 8 ++ digs 7 8))).toList == [2, 0, 0, 0, 5, 0, 0, 0, 0, 0, 0, 0, 7, 0, 0, 0, 0, 0, 0, 0]) = true := by
  rw [S_toList]
  decide +kernel

/-- A row of bytes as a string, in the world in which it stands. -/
theorem conv_own {w : World} {base : Nat} {v : Value} {n : Nat} {l : List Nat} (h : w.ownsRow base 5 1 v n (U8 l)) :
    ∃ A c, v = .slice A n c ∧ Rd w 1 A n (U8 l) ∧ (convert 22 9 (.slice A n c)).run Try.prog w = .ok (.string (S l)) w := by
  obtain ⟨A, c, rfl, _, _, hr, _⟩ := own_form h
  exact ⟨A, c, rfl, hr, run_str_rd Try.underlying22 Try.underlying5 Try.underlying9 hr⟩

set_option maxHeartbeats 400000 in
theorem awake_any (w : World) : Calls Try.prog 10 #[] w fun e w' => e = .returned (.bool true) ∧ Below w.heap.size w w' := by
  have a1 := awake_s1
  have a2 := awake_s2
  go_enter Try.func10, Try.ntmps10
  go_wp2_with fail
  refine (wInt_any _ 1 1 258 (U8 [9]) _ (by rw [u8_9]; exact rd_one _ _ _) (one_U8 _) (by omega) (by omega) (by omega)).mono ?_
  rintro e w1 ⟨v, rfl, hv, hb⟩
  have hb1 : Below w.heap.size w w1 := ((Below.refl _ _).alloc (Nat.le_refl _) _).trans (hb.mono (by simp))
  rw [← U8_append] at hv
  obtain ⟨A1, c1, rfl, _, hc1⟩ := conv_own hv
  clear hv hb
  go_wp2_with fail
  refine (wList_any none _ 0 0 2 2 [] [5, 7] _ (Rd.nil _ _ _) (by simp) (rd_two _ _ _ _) (by simp) (by omega)).mono ?_
  rintro e w2 ⟨v, rfl, hv, hb⟩
  have hb2 : Below w.heap.size w w2 := (hb1.alloc hb1.size _).trans (hb.mono (by have := hb1.size; simp; omega))
  rw [List.nil_append, ← U8_append] at hv
  obtain ⟨A2, c2, rfl, _, hc2⟩ := conv_own hv
  clear hv hb hc1
  go_wp2
  go_ret
  exact ⟨rfl, hb2⟩

set_option maxHeartbeats 1000000 in
set_option linter.unusedSimpArgs false in
theorem wireNumbers_core (A : Option Addr) (n c x : Nat) (k : Int) (l : List Nat) (w : World) (hr : Rd w 1 A n (U8 l)) (hn : n ≤ 9223372036854775807) (hx : x < 18446744073709551616) (hlo : -9223372036854775808 ≤ k) (hhi : k ≤ 9223372036854775807) :
    Calls Try.prog 3 #[.slice A n c, .int .u64 x, .int .i64 k] w fun e w' => e = .returned (.bool true) ∧ Below w.heap.size w w' := by
  by_cases hlen : 200 < n
  · go_enter Try.func3, Try.ntmps3
    go_wp2_with fail
    refine (awake_any _).mono ?_
    rintro e w1 ⟨rfl, hb1⟩
    go_wp2_with fail
    refine (awake_any _).mono ?_
    rintro e w2 ⟨rfl, hb2⟩
    go_wp2
    go_ret
    exact ⟨rfl, below_chain hb1 hb2⟩
  · have hd : decide ((200 : Int) < (n : Int)) = false := by simp; omega
    go_enter Try.func3, Try.ntmps3
    go_wp2_with fail
    refine (awake_any _).mono ?_
    rintro e w1 ⟨rfl, hb1⟩
    go_wp2_with (at_builtin; refine wpl_append rfl _ _ rfl el_u8 rfl (own_empty _ _ (Nat.le_refl _)) rfl ((hr.below hb1).alloc _) (one_U8 _) ?_ ?_ ?_)
    · omega
    · simp
    intro v7 w7 hv7 hg7 _
    have hbw : Below w.heap.size w w7 := (hb1.alloc hb1.size _).grown hg7 (by have := hb1.size; simp; omega) (fun k hk => by simp [Value.ownBlock] at hk; subst hk; exact hb1.size)
    obtain ⟨A7, c7, rfl, _, _, hr7, _⟩ := own_form hv7
    clear hv7 hg7
    go_wp2_with fail
    refine wpR_begin Later (by kernel_rfl) ?_
    refine wpR_take 0 (v := ?_) later_moves (by decide) (by kernel_rfl) (by kernel_rfl) (by kernel_rfl) (fun _ _ _ h => h) (wantedT (by rfl) ?_) ?_ ; rotate_left ; · ( intro w' hR ; simp only [List.getElem_cons_succ, List.getElem_cons_zero] ; go_simp ; try with_reducible rfl ) -- Op.move (Operand.tmp 7)
    simp only [Act.put, List.getElem_cons_succ, List.getElem_cons_zero, List.setIfInBounds_toArray, List.set_cons_zero, List.set_cons_succ]
    refine wpR_take 1 (v := ?_) later_moves (by decide) (by kernel_rfl) (by kernel_rfl) (by kernel_rfl) (fun _ _ _ h => h) (wantedT (by rfl) ?_) ?_ ; rotate_left ; · ( intro w' hR ; simp only [List.getElem_cons_succ, List.getElem_cons_zero] ; go_simp ; try with_reducible rfl ) -- Op.move (Operand.tmp 1)
    simp only [Act.put, List.getElem_cons_succ, List.getElem_cons_zero, List.setIfInBounds_toArray, List.set_cons_zero, List.set_cons_succ]
    refine wpR_take 4 (v := ?_) later_moves (by decide) (by kernel_rfl) (by kernel_rfl) (by kernel_rfl) (fun _ _ _ h => h) (wantedT (by rfl) ?_) ?_ ; rotate_left ; · ( intro w' hR ; simp only [List.getElem_cons_succ, List.getElem_cons_zero] ; go_simp ; try with_reducible rfl ) -- Op.move (Operand.tmp 0)
    simp only [Act.put, List.getElem_cons_succ, List.getElem_cons_zero, List.setIfInBounds_toArray, List.set_cons_zero, List.set_cons_succ]
    refine wpR_take 5 (v := ?_) later_moves (by decide) (by kernel_rfl) (by kernel_rfl) (by kernel_rfl) (fun _ _ _ h => h) (wantedT (by rfl) ?_) ?_ ; rotate_left ; · ( intro w' hR ; simp only [List.getElem_cons_succ, List.getElem_cons_zero] ; go_simp ; try with_reducible rfl ) -- Op.move (Operand.tmp 1)
    simp only [Act.put, List.getElem_cons_succ, List.getElem_cons_zero, List.setIfInBounds_toArray, List.set_cons_zero, List.set_cons_succ]
    refine wpR_call 2 later_moves (by decide) (by kernel_rfl) (by rfl) ((wUint_any A7 n c7 x (U8 l) _ hr7.drew (one_U8 _) hx (by omega)).mono ?_) (fun _ => by simp only [List.getElem_cons_succ, List.getElem_cons_zero] ; go_simp)
    rintro e w2 ⟨v2, rfl, hv2, hb2⟩ ; obtain ⟨A2, c2, rfl, _, _, hr2, _⟩ := own_form hv2 ; refine ⟨_, rfl, hb2, ?_⟩ ; have hrU : Rd w2 1 A2 (n + 8) (U8 (l ++ digs x 8)) := by rw [U8_append]; exact hr2
    simp only [Act.put, List.getElem_cons_succ, List.getElem_cons_zero, List.setIfInBounds_toArray, List.set_cons_zero, List.set_cons_succ]
    refine wpR_take 3 later_moves (by decide) (by kernel_rfl) (by kernel_rfl) (by kernel_rfl) (fun _ _ _ h => h) (wantedT (by rfl) (fun w' hR => conv_op (e := 5) Try.underlying22 Try.underlying5 Try.underlying9 rfl rfl ((hrU).below hR))) ?_
    simp only [Act.put, List.getElem_cons_succ, List.getElem_cons_zero, List.setIfInBounds_toArray, List.set_cons_zero, List.set_cons_succ]
    refine wpR_call 6 later_moves (by decide) (by kernel_rfl) (by rfl) ((rDigits_any x 8 _ hx (by omega)).mono ?_) (fun _ => by simp only [List.getElem_cons_succ, List.getElem_cons_zero] ; go_simp)
    rintro e w6 ⟨v6, rfl, hv6, hb6⟩ ; obtain ⟨A6, c6, rfl, _, _, hr6, _⟩ := own_form hv6 ; refine ⟨_, rfl, hb6, ?_⟩
    simp only [Act.put, List.getElem_cons_succ, List.getElem_cons_zero, List.setIfInBounds_toArray, List.set_cons_zero, List.set_cons_succ]
    refine wpR_call 7 later_moves (by decide) (by kernel_rfl) (by rfl) ((join_any A A6 n c 8 c6 l (digs x 8) _ ((((hr.below hbw).drew).below hb2).below hb6) hr6 (by omega)).mono ?_) (fun _ => by simp only [List.getElem_cons_succ, List.getElem_cons_zero] ; go_simp)
    rintro e w7 ⟨rfl, rfl⟩ ; refine ⟨_, rfl, Below.refl _ _, ?_⟩
    simp only [Act.put, List.getElem_cons_succ, List.getElem_cons_zero, List.setIfInBounds_toArray, List.set_cons_zero, List.set_cons_succ]
    refine wpR_take 8 (v := ?_) later_moves (by decide) (by kernel_rfl) (by kernel_rfl) (by kernel_rfl) (fun _ _ _ h => h) (wantedT (by rfl) ?_) ?_ ; rotate_left ; · ( intro w' hR ; simp only [List.getElem_cons_succ, List.getElem_cons_zero] ; go_simp ; try with_reducible rfl ) -- Op.binOp BinOp.eql 9 (Operand.tmp 22) (Operand.tmp 26) 9
    simp only [Act.put, List.getElem_cons_succ, List.getElem_cons_zero, List.setIfInBounds_toArray, List.set_cons_zero, List.set_cons_succ]
    refine wpR_take 9 (v := ?_) later_moves (by decide) (by kernel_rfl) (by kernel_rfl) (by kernel_rfl) (fun _ _ _ h => h) (wantedT (by rfl) ?_) ?_ ; rotate_left ; · ( intro w' hR ; simp only [List.getElem_cons_succ, List.getElem_cons_zero] ; go_simp ; try with_reducible rfl ) -- Op.move (Operand.tmp 27)
    simp only [Act.put, List.getElem_cons_succ, List.getElem_cons_zero, List.setIfInBounds_toArray, List.set_cons_zero, List.set_cons_succ]
    refine wpR_take 10 (v := ?_) later_moves (by decide) (by kernel_rfl) (by kernel_rfl) (by kernel_rfl) (fun _ _ _ h => h) (wantedT (by rfl) ?_) ?_ ; rotate_left ; · ( intro w' hR ; simp only [List.getElem_cons_succ, List.getElem_cons_zero] ; go_simp ; try with_reducible rfl ) -- Op.move (Operand.tmp 7)
    simp only [Act.put, List.getElem_cons_succ, List.getElem_cons_zero, List.setIfInBounds_toArray, List.set_cons_zero, List.set_cons_succ]
    refine wpR_take 11 (v := ?_) later_moves (by decide) (by kernel_rfl) (by kernel_rfl) (by kernel_rfl) (fun _ _ _ h => h) (wantedT (by rfl) ?_) ?_ ; rotate_left ; · ( intro w' hR ; simp only [List.getElem_cons_succ, List.getElem_cons_zero] ; go_simp ; try with_reducible rfl ) -- Op.move (Operand.tmp 2)
    simp only [Act.put, List.getElem_cons_succ, List.getElem_cons_zero, List.setIfInBounds_toArray, List.set_cons_zero, List.set_cons_succ]
    refine wpR_take 14 (v := ?_) later_moves (by decide) (by kernel_rfl) (by kernel_rfl) (by kernel_rfl) (fun _ _ _ h => h) (wantedT (by rfl) ?_) ?_ ; rotate_left ; · ( intro w' hR ; simp only [List.getElem_cons_succ, List.getElem_cons_zero] ; go_simp ; try with_reducible rfl ) -- Op.move (Operand.tmp 0)
    simp only [Act.put, List.getElem_cons_succ, List.getElem_cons_zero, List.setIfInBounds_toArray, List.set_cons_zero, List.set_cons_succ]
    refine wpR_take 15 (v := ?_) later_moves (by decide) (by kernel_rfl) (by kernel_rfl) (by kernel_rfl) (fun _ _ _ h => h) (wantedT (by rfl) ?_) ?_ ; rotate_left ; · ( intro w' hR ; simp only [List.getElem_cons_succ, List.getElem_cons_zero] ; go_simp ; try with_reducible rfl ) -- Op.move (Operand.tmp 2)
    simp only [Act.put, List.getElem_cons_succ, List.getElem_cons_zero, List.setIfInBounds_toArray, List.set_cons_zero, List.set_cons_succ]
    refine wpR_call 12 later_moves (by decide) (by kernel_rfl) (by rfl) ((wInt_any A7 n c7 k (U8 l) _ ((hr7.drew.below hb2).below hb6) (one_U8 _) hlo hhi (by omega)).mono ?_) (fun _ => by simp only [List.getElem_cons_succ, List.getElem_cons_zero] ; go_simp)
    rintro e w12 ⟨v12, rfl, hv12, hb12⟩ ; obtain ⟨A12, c12, rfl, _, _, hr12, _⟩ := own_form hv12 ; refine ⟨_, rfl, hb12, ?_⟩ ; have hrI : Rd w12 1 A12 (n + 4) (U8 (l ++ digs (lenOf k) 4)) := by rw [U8_append]; exact hr12
    simp only [Act.put, List.getElem_cons_succ, List.getElem_cons_zero, List.setIfInBounds_toArray, List.set_cons_zero, List.set_cons_succ]
    refine wpR_take 13 later_moves (by decide) (by kernel_rfl) (by kernel_rfl) (by kernel_rfl) (fun _ _ _ h => h) (wantedT (by rfl) (fun w' hR => conv_op (e := 5) Try.underlying22 Try.underlying5 Try.underlying9 rfl rfl (hrI.below hR))) ?_
    simp only [Act.put, List.getElem_cons_succ, List.getElem_cons_zero, List.setIfInBounds_toArray, List.set_cons_zero, List.set_cons_succ]
    refine wpR_call 16 later_moves (by decide) (by kernel_rfl) (by rfl) ((rInt_any k _ hlo hhi).mono ?_) (fun _ => by simp only [List.getElem_cons_succ, List.getElem_cons_zero] ; go_simp)
    rintro e w16 ⟨v16, rfl, hv16, hb16⟩ ; obtain ⟨A16, c16, rfl, _, _, hr16, _⟩ := own_form hv16 ; refine ⟨_, rfl, hb16, ?_⟩
    simp only [Act.put, List.getElem_cons_succ, List.getElem_cons_zero, List.setIfInBounds_toArray, List.set_cons_zero, List.set_cons_succ]
    refine wpR_call 17 later_moves (by decide) (by kernel_rfl) (by rfl) ((join_any A A16 n c 4 c16 l (digs (lenOf k) 4) _ ((((((hr.below hbw).drew).below hb2).below hb6).below hb12).below hb16) hr16 (by omega)).mono ?_) (fun _ => by simp only [List.getElem_cons_succ, List.getElem_cons_zero] ; go_simp)
    rintro e w17 ⟨rfl, rfl⟩ ; refine ⟨_, rfl, Below.refl _ _, ?_⟩
    simp only [Act.put, List.getElem_cons_succ, List.getElem_cons_zero, List.setIfInBounds_toArray, List.set_cons_zero, List.set_cons_succ]
    refine wpR_take 18 (v := ?_) later_moves (by decide) (by kernel_rfl) (by kernel_rfl) (by kernel_rfl) (fun _ _ _ h => h) (wantedT (by rfl) ?_) ?_ ; rotate_left ; · ( intro w' hR ; simp only [List.getElem_cons_succ, List.getElem_cons_zero] ; go_simp ; try with_reducible rfl ) -- Op.binOp BinOp.eql 9 (Operand.tmp 32) (Operand.tmp 36) 9
    simp only [Act.put, List.getElem_cons_succ, List.getElem_cons_zero, List.setIfInBounds_toArray, List.set_cons_zero, List.set_cons_succ]
    refine wpR_take 19 (v := ?_) later_moves (by decide) (by kernel_rfl) (by kernel_rfl) (by kernel_rfl) (fun _ _ _ h => h) (wantedT (by rfl) ?_) ?_ ; rotate_left ; · ( intro w' hR ; simp only [List.getElem_cons_succ, List.getElem_cons_zero] ; go_simp ; try with_reducible rfl ) -- Op.pick (Operand.tmp 28) (Operand.tmp 37) (Operand.const (Value.bool false))
    simp only [Act.put, List.getElem_cons_succ, List.getElem_cons_zero, List.setIfInBounds_toArray, List.set_cons_zero, List.set_cons_succ]
    refine wpR_take 20 (v := ?_) later_moves (by decide) (by kernel_rfl) (by kernel_rfl) (by kernel_rfl) (fun _ _ _ h => h) (wantedT (by rfl) ?_) ?_ ; rotate_left ; · ( intro w' hR ; simp only [List.getElem_cons_succ, List.getElem_cons_zero] ; go_simp ; try with_reducible rfl ) -- Op.move (Operand.tmp 38)
    simp only [Act.put, List.getElem_cons_succ, List.getElem_cons_zero, List.setIfInBounds_toArray, List.set_cons_zero, List.set_cons_succ]
    refine wpR_take 21 (v := ?_) later_moves (by decide) (by kernel_rfl) (by kernel_rfl) (by kernel_rfl) (fun _ _ _ h => h) (wantedT (by rfl) ?_) ?_ ; rotate_left ; · ( intro w' hR ; simp only [List.getElem_cons_succ, List.getElem_cons_zero] ; go_simp ; try with_reducible rfl ) -- Op.move (Operand.tmp 7)
    simp only [Act.put, List.getElem_cons_succ, List.getElem_cons_zero, List.setIfInBounds_toArray, List.set_cons_zero, List.set_cons_succ]
    refine wpR_take 22 later_moves (by decide) (by kernel_rfl) (by kernel_rfl) (by kernel_rfl) (fun _ _ _ h => h) (wantedT (by rfl) (fun w' hR => conv_op (e := 5) Try.underlying22 Try.underlying5 Try.underlying9 rfl rfl (((((hr7.drew.below hb2).below hb6).below hb12).below hb16).below hR))) ?_
    simp only [Act.put, List.getElem_cons_succ, List.getElem_cons_zero, List.setIfInBounds_toArray, List.set_cons_zero, List.set_cons_succ]
    refine wpR_take 23 (v := ?_) later_moves (by decide) (by kernel_rfl) (by kernel_rfl) (by kernel_rfl) (fun _ _ _ h => h) (wantedT (by rfl) ?_) ?_ ; rotate_left ; · ( intro w' hR ; simp only [List.getElem_cons_succ, List.getElem_cons_zero] ; go_simp ; try with_reducible rfl ) -- Op.move (Operand.tmp 0)
    simp only [Act.put, List.getElem_cons_succ, List.getElem_cons_zero, List.setIfInBounds_toArray, List.set_cons_zero, List.set_cons_succ]
    refine wpR_take 24 later_moves (by decide) (by kernel_rfl) (by kernel_rfl) (by kernel_rfl) (fun _ _ _ h => h) (wantedT (by rfl) (fun w' hR => conv_op (e := 5) Try.underlying22 Try.underlying5 Try.underlying9 rfl rfl (((((((hr.below hbw).drew).below hb2).below hb6).below hb12).below hb16).below hR))) ?_
    simp only [Act.put, List.getElem_cons_succ, List.getElem_cons_zero, List.setIfInBounds_toArray, List.set_cons_zero, List.set_cons_succ]
    refine wpR_take 25 (v := ?_) later_moves (by decide) (by kernel_rfl) (by kernel_rfl) (by kernel_rfl) (fun _ _ _ h => h) (wantedT (by rfl) ?_) ?_ ; rotate_left ; · ( intro w' hR ; simp only [List.getElem_cons_succ, List.getElem_cons_zero] ; go_simp ; try with_reducible rfl ) -- Op.binOp BinOp.eql 9 (Operand.tmp 41) (Operand.tmp 43) 9
    simp only [Act.put, List.getElem_cons_succ, List.getElem_cons_zero, List.setIfInBounds_toArray, List.set_cons_zero, List.set_cons_succ]
    refine wpR_take 26 (v := ?_) later_moves (by decide) (by kernel_rfl) (by kernel_rfl) (by kernel_rfl) (fun _ _ _ h => h) (wantedT (by rfl) ?_) ?_ ; rotate_left ; · ( intro w' hR ; simp only [List.getElem_cons_succ, List.getElem_cons_zero] ; go_simp ; try with_reducible rfl ) -- Op.pick (Operand.tmp 39) (Operand.tmp 44) (Operand.const (Value.bool false))
    simp only [Act.put, List.getElem_cons_succ, List.getElem_cons_zero, List.setIfInBounds_toArray, List.set_cons_zero, List.set_cons_succ]
    refine wpR_take 27 (v := ?_) later_moves (by decide) (by kernel_rfl) (by kernel_rfl) (by kernel_rfl) (fun _ _ _ h => h) (wantedT (by rfl) ?_) ?_ ; rotate_left ; · ( intro w' hR ; simp only [List.getElem_cons_succ, List.getElem_cons_zero] ; go_simp ; try with_reducible rfl ) -- Op.assign (Operand.tmp 45)
    simp only [Act.put, List.getElem_cons_succ, List.getElem_cons_zero, List.setIfInBounds_toArray, List.set_cons_zero, List.set_cons_succ]
    refine wpR_done (by kernel_rfl) ?_
    clear hr2 hr6 hr7 hr12 hr16 hrU hrI hv2 hv6 hv12 hv16
    go_wp2
    go_ret
    exact ⟨rfl, below_chain hbw.drew (below_chain (below_chain (below_chain hb2 hb6) hb12) hb16)⟩

theorem cells_u8 : Try.prog.cellsOf 5 = 1 := by kernel_rfl
theorem cells_u64 : Try.prog.cellsOf 23 = 1 := by kernel_rfl
/-- A []byte argument. -/
theorem arg_bytes {w : World} {A : Option Addr} {n c : Nat} (h : Fits Try.prog w 22 (Value.slice A n c).cells.toList) : ∃ l, n ≤ c ∧ c ≤ 9223372036854775807 ∧ Rd w 1 A n (U8 l) ∧ ∀ x ∈ l, x < 256 := by
  obtain ⟨A', n', c', l, e, h1, h2, h3, h4⟩ := fits_bytes Try.underlying22 Try.underlying5 cells_u8 h
  simp [Value.cells] at e
  obtain ⟨rfl, rfl, rfl⟩ := e
  exact ⟨l, h1, by simpa [maxLen] using h2, h3, h4⟩
theorem arg_words {w : World} {A : Option Addr} {n c : Nat} (h : Fits Try.prog w 31 (Value.slice A n c).cells.toList) : ∃ l, n ≤ c ∧ c ≤ 9223372036854775807 ∧ Rd w 1 A n (U64 l) ∧ ∀ x ∈ l, x < 18446744073709551616 := by
  obtain ⟨A', n', c', l, e, h1, h2, h3, h4⟩ := fits_words Try.underlying31 Try.underlying23 cells_u64 h
  simp [Value.cells] at e
  obtain ⟨rfl, rfl, rfl⟩ := e
  exact ⟨l, h1, by simpa [maxLen] using h2, h3, h4⟩
theorem wf_nat {n : Int} (h : (Lit.int .u64 n).wf = true) : ∃ m : Nat, n = (m : Int) ∧ m < 18446744073709551616 := by
  have hx : 0 ≤ n ∧ n ≤ 18446744073709551615 := by simpa [Lit.wf, IntKind.min, IntKind.max, IntKind.signed, IntKind.bits] using h
  obtain ⟨m, rfl⟩ := Int.eq_ofNat_of_zero_le hx.1
  exact ⟨m, rfl, by omega⟩
theorem wf_int {n : Int} (h : (Lit.int .i64 n).wf = true) : -9223372036854775808 ≤ n ∧ n ≤ 9223372036854775807 := by
  simpa [Lit.wf, IntKind.min, IntKind.max, IntKind.signed, IntKind.bits] using h

theorem wireNumbers_walk (W : World) (A : Option Addr) (n c : Nat) (f : Fits Try.prog W 22 (Value.slice A n c).cells.toList) (x : Int) (hx : (Lit.int .u64 x).wf = true) (k : Int) (hk : (Lit.int .i64 k).wf = true) :
    Calls Try.prog 3 #[.slice A n c, .int .u64 x, .int .i64 k] W fun e W' => e = .returned (.bool true) ∧ Below W.heap.size W W' := by
  obtain ⟨l, h1, h2, h3, _⟩ := arg_bytes f
  obtain ⟨m, rfl, hm⟩ := wf_nat hx
  exact wireNumbers_core A n c m k l W h3 (by omega) hm (wf_int hk).1 (wf_int hk).2
end Go.Proofs.Ytohddeebmofoeaa
