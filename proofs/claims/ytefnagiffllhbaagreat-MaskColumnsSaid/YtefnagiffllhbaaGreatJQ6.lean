/-
  Lists of words in memory: reading one; owned rows.
-/
import Derived.Test.YtefnagiffllhbaaGreatJQ5
import Derived.Test.YtefnagiffllhbaaGreatJQ2
import Derived.Test.YtefnagiffllhbaaGreatJQ3
import Derived.Test.YtefnagiffllhbaaGreatJQ4

/- RefE -/
namespace Go.Proofs.YtefnagiffllhbaaGreat
open Go.RowKit

theorem later_cell {w w' : World} {p : Addr} {v : Value} (hR : Later w w') (h : w.cell? p = some v) : w'.cell? p = some v := (Below.cell hR (World.block_lt_of_cell? _ _ h)).trans h

/-- Whether a table is valid. -/
def tabOk (p : Nat) (pub vars : Int) (rows : List RowR) : Bool :=
  okP p && !decide (pub < 0) && !decide (vars ≤ pub) && !decide (65536 < vars) && !decide ((16384 : Int) < (rows.length : Int)) && rows.all (rowOk p vars)

set_option linter.unusedSimpArgs false in
set_option maxRecDepth 100000 in
set_option maxHeartbeats 4000000 in
theorem rValid_any (p : Nat) (pub vars : Int) (A : Option Addr) (n c : Nat) (rows : List RowR) (w : World) (hr : RSl 3 RRow w [.slice A n c] rows) (hp : p < 18446744073709551616) :
    Calls Tryz.prog 70 #[tabV p pub vars (.slice A n c)] w fun e w' => e = .returned (.bool (tabOk p pub vars rows)) ∧ Below w.heap.size w w' := by
  obtain ⟨A', n', c', he, hlen, hnc, hmx, hrd⟩ := hr
  simp at he
  obtain ⟨rfl, rfl, rfl⟩ := he
  subst hlen
  unfold tabV
  cases b1 : okP p
  · have E := Lib.hid (show tabOk p pub vars rows = false by simp [tabOk, b1])
    have B1 := Lib.hid b1
    clear b1
    go_enter Tryz.func70, Tryz.ntmps70
    go_wp2_with (go_at_call 51; refine (rValidP_any p _ hp).mono ?_; rintro e w1 ⟨rfl, hb⟩; rw [B1.out]; have hB := (Blk.new w _ _).below hb (by simp); have hb1 : Below w.heap.size w w1 := below_chain ((Below.refl _ w).alloc (Nat.le_refl _) _) hb; have t1 : w1.cell? ⟨w.heap.size, 1, none⟩ = some (.int .i64 pub) := hB.cell 1; have t2 : w1.cell? ⟨w.heap.size, 2, none⟩ = some (.int .i64 vars) := hB.cell 2; have t3 : w1.cell? ⟨w.heap.size, 3, none⟩ = some (.slice A rows.length c) := hB.cell 3; clear hb)
    go_ret
    exact ⟨by rw [E.out]; rfl, hb1⟩
  have B1 := Lib.hid b1
  by_cases z1 : pub < 0
  · have E := Lib.hid (show tabOk p pub vars rows = false by unfold tabOk; rw [decide_eq_true z1]; simp)
    have d1 := decide_eq_true z1
    clear b1
    go_enter Tryz.func70, Tryz.ntmps70
    go_wp2_with (go_at_call 51; refine (rValidP_any p _ hp).mono ?_; rintro e w1 ⟨rfl, hb⟩; rw [B1.out]; have hB := (Blk.new w _ _).below hb (by simp); have hb1 : Below w.heap.size w w1 := below_chain ((Below.refl _ w).alloc (Nat.le_refl _) _) hb; have t1 : w1.cell? ⟨w.heap.size, 1, none⟩ = some (.int .i64 pub) := hB.cell 1; have t2 : w1.cell? ⟨w.heap.size, 2, none⟩ = some (.int .i64 vars) := hB.cell 2; have t3 : w1.cell? ⟨w.heap.size, 3, none⟩ = some (.slice A rows.length c) := hB.cell 3; clear hb)
    go_ret
    exact ⟨by rw [E.out]; rfl, hb1⟩
  have d1 := decide_eq_false z1
  by_cases z2 : vars ≤ pub
  · have E := Lib.hid (show tabOk p pub vars rows = false by unfold tabOk; rw [decide_eq_true z2]; simp)
    have d2 := decide_eq_true z2
    clear b1
    go_enter Tryz.func70, Tryz.ntmps70
    go_wp2_with (go_at_call 51; refine (rValidP_any p _ hp).mono ?_; rintro e w1 ⟨rfl, hb⟩; rw [B1.out]; have hB := (Blk.new w _ _).below hb (by simp); have hb1 : Below w.heap.size w w1 := below_chain ((Below.refl _ w).alloc (Nat.le_refl _) _) hb; have t1 : w1.cell? ⟨w.heap.size, 1, none⟩ = some (.int .i64 pub) := hB.cell 1; have t2 : w1.cell? ⟨w.heap.size, 2, none⟩ = some (.int .i64 vars) := hB.cell 2; have t3 : w1.cell? ⟨w.heap.size, 3, none⟩ = some (.slice A rows.length c) := hB.cell 3; clear hb)
    go_ret
    exact ⟨by rw [E.out]; rfl, hb1⟩
  have d2 := decide_eq_false z2
  by_cases z3 : 65536 < vars
  · have E := Lib.hid (show tabOk p pub vars rows = false by unfold tabOk; rw [decide_eq_true z3]; simp)
    have d3 := decide_eq_true z3
    clear b1
    go_enter Tryz.func70, Tryz.ntmps70
    go_wp2_with (go_at_call 51; refine (rValidP_any p _ hp).mono ?_; rintro e w1 ⟨rfl, hb⟩; rw [B1.out]; have hB := (Blk.new w _ _).below hb (by simp); have hb1 : Below w.heap.size w w1 := below_chain ((Below.refl _ w).alloc (Nat.le_refl _) _) hb; have t1 : w1.cell? ⟨w.heap.size, 1, none⟩ = some (.int .i64 pub) := hB.cell 1; have t2 : w1.cell? ⟨w.heap.size, 2, none⟩ = some (.int .i64 vars) := hB.cell 2; have t3 : w1.cell? ⟨w.heap.size, 3, none⟩ = some (.slice A rows.length c) := hB.cell 3; clear hb)
    go_ret
    exact ⟨by rw [E.out]; rfl, hb1⟩
  have d3 := decide_eq_false z3
  by_cases z4 : (16384 : Int) < (rows.length : Int)
  · have E := Lib.hid (show tabOk p pub vars rows = false by unfold tabOk; rw [decide_eq_true z4]; simp)
    have d4 := decide_eq_true z4
    clear b1
    go_enter Tryz.func70, Tryz.ntmps70
    go_wp2_with (go_at_call 51; refine (rValidP_any p _ hp).mono ?_; rintro e w1 ⟨rfl, hb⟩; rw [B1.out]; have hB := (Blk.new w _ _).below hb (by simp); have hb1 : Below w.heap.size w w1 := below_chain ((Below.refl _ w).alloc (Nat.le_refl _) _) hb; have t1 : w1.cell? ⟨w.heap.size, 1, none⟩ = some (.int .i64 pub) := hB.cell 1; have t2 : w1.cell? ⟨w.heap.size, 2, none⟩ = some (.int .i64 vars) := hB.cell 2; have t3 : w1.cell? ⟨w.heap.size, 3, none⟩ = some (.slice A rows.length c) := hB.cell 3; clear hb)
    go_ret
    exact ⟨by rw [E.out]; rfl, hb1⟩
  have d4 := decide_eq_false z4
  have E := Lib.hid (show tabOk p pub vars rows = rows.all (rowOk p vars) by unfold tabOk; rw [b1, d1, d2, d3, d4]; simp)
  clear b1
  go_enter Tryz.func70, Tryz.ntmps70
  go_wp2_with (go_at_call 51; refine (rValidP_any p _ hp).mono ?_; rintro e w1 ⟨rfl, hb⟩; rw [B1.out]; have hB := (Blk.new w _ _).below hb (by simp); have hb1 : Below w.heap.size w w1 := below_chain ((Below.refl _ w).alloc (Nat.le_refl _) _) hb; have t1 : w1.cell? ⟨w.heap.size, 1, none⟩ = some (.int .i64 pub) := hB.cell 1; have t2 : w1.cell? ⟨w.heap.size, 2, none⟩ = some (.int .i64 vars) := hB.cell 2; have t3 : w1.cell? ⟨w.heap.size, 3, none⟩ = some (.slice A rows.length c) := hB.cell 3; clear hb)
  go_loopw [3] (fun i wr => ∃ j : Nat, j ≤ rows.length ∧ i = .int .i64 (j : Int) ∧ Below w1.heap.size w1 wr ∧ Hid (∀ k < j, ∀ h : k < rows.length, rowOk p vars rows[k] = true))
    (fun i _ => rows.length - (intOf i).toNat)
  case atStart => exact ⟨0, Nat.zero_le _, rfl, Below.refl _ _, fun k hk => by omega⟩
  case round =>
    obtain ⟨j, hj, rfl, hbr, HB⟩ := hrel
    have s3 : wr.cell? ⟨w.heap.size, 3, none⟩ = some (.slice A rows.length c) := (hB.below hbr hB.lt).cell 3
    by_cases hlt : j < rows.length
    · have hBr : Blk wr.drew w.heap.size 25 _ := hB.below hbr.drew hB.lt
      have hbw : Below w.heap.size w wr.drew := below_chain hb1 hbr.drew
      obtain ⟨b, q, rfl⟩ := hrd.base (by omega) (by omega)
      obtain ⟨cs, -, hc, x, y, z, rfl, hx1, hy1, hz1⟩ := (hrd.below kept_RRow hbw).get hlt
      have h0 : wr.drew.cell? ⟨b, q + j * 3, none⟩ = some x := hc 0 (by omega)
      have h1 : wr.drew.cell? ⟨b, q + j * 3 + 1, none⟩ = some y := hc 1 (by omega)
      have h2 : wr.drew.cell? ⟨b, q + j * 3 + 2, none⟩ = some z := hc 2 (by omega)
      have HL := Lib.hid hlt
      have i1 : (0 : Int) ≤ (j : Int) := by omega
      have i2 : (j : Int) < (rows.length : Int) := by omega
      clear hc
      cases bo : rowOk p vars rows[j]
      · have HO := Lib.hid bo
        clear bo
        go_wp2_with fail
        refine wpR_begin Later (by kernel_rfl) ?_
        refine wpR_take 0 (v := tabV p pub vars (.slice (some ⟨b, q, none⟩) rows.length c)) later_moves (by decide) (by kernel_rfl) (by kernel_rfl) (by kernel_rfl) (fun _ _ _ h => h) (wantedT (by rfl) ?_) ?_ ; · ( intro w' hR ; simp only [List.getElem_cons_succ, List.getElem_cons_zero] ; unfold tabV ; have q0 := (hBr.below hR hBr.lt).cell 0 ; have q1 := (hBr.below hR hBr.lt).cell 1 ; have q2 := (hBr.below hR hBr.lt).cell 2 ; have q3 := (hBr.below hR hBr.lt).cell 3 ; simp at q0 q1 q2 q3 ; go_simp )
        simp only [Act.put, List.getElem_cons_succ, List.getElem_cons_zero, List.setIfInBounds_toArray, List.set_cons_zero, List.set_cons_succ]
        refine wpR_take 1 (v := ?_) later_moves (by decide) (by kernel_rfl) (by kernel_rfl) (by kernel_rfl) (fun _ _ _ h => h) (wantedT (by rfl) ?_) ?_ ; rotate_left ; · ( intro w' hR ; simp only [List.getElem_cons_succ, List.getElem_cons_zero] ; go_simp ; try with_reducible rfl )
        simp only [Act.put, List.getElem_cons_succ, List.getElem_cons_zero, List.setIfInBounds_toArray, List.set_cons_zero, List.set_cons_succ]
        refine wpR_take 2 (v := .slice (some ⟨b, q, none⟩) rows.length c) later_moves (by decide) (by kernel_rfl) (by kernel_rfl) (by kernel_rfl) (fun _ _ _ h => h) (wantedT (by rfl) ?_) ?_ ; · ( intro w' hR ; simp only [List.getElem_cons_succ, List.getElem_cons_zero] ; have q3 := (hBr.below hR hBr.lt).cell 3 ; simp at q3 ; go_simp )
        simp only [Act.put, List.getElem_cons_succ, List.getElem_cons_zero, List.setIfInBounds_toArray, List.set_cons_zero, List.set_cons_succ]
        refine wpR_take 3 (v := ?_) later_moves (by decide) (by kernel_rfl) (by kernel_rfl) (by kernel_rfl) (fun _ _ _ h => h) (wantedT (by rfl) ?_) ?_ ; rotate_left ; · ( intro w' hR ; simp only [List.getElem_cons_succ, List.getElem_cons_zero] ; go_simp ; try with_reducible rfl )
        simp only [Act.put, List.getElem_cons_succ, List.getElem_cons_zero, List.setIfInBounds_toArray, List.set_cons_zero, List.set_cons_succ]
        refine wpR_take 4 (v := ?_) later_moves (by decide) (by kernel_rfl) (by kernel_rfl) (by kernel_rfl) (fun _ _ _ h => h) (wantedT (by rfl) ?_) ?_ ; rotate_left ; · ( intro w' hR ; simp only [List.getElem_cons_succ, List.getElem_cons_zero] ; go_simp ; try with_reducible rfl )
        simp only [Act.put, List.getElem_cons_succ, List.getElem_cons_zero, List.setIfInBounds_toArray, List.set_cons_zero, List.set_cons_succ]
        refine wpR_take 5 (v := .agg #[x, y, z]) later_moves (by decide) (by kernel_rfl) (by kernel_rfl) (by kernel_rfl) (fun _ _ _ h => h) (wantedT (by rfl) ?_) ?_ ; · ( intro w' hR ; simp only [List.getElem_cons_succ, List.getElem_cons_zero] ; have r0 := later_cell hR h0 ; have r1 := later_cell hR h1 ; have r2 := later_cell hR h2 ; go_simp )
        simp only [Act.put, List.getElem_cons_succ, List.getElem_cons_zero, List.setIfInBounds_toArray, List.set_cons_zero, List.set_cons_succ]
        refine wpR_call 6 later_moves (by decide) (by kernel_rfl) (by rfl) ((rRow_any p pub vars (.slice (some ⟨b, q, none⟩) rows.length c) rows[j] x y z _ hx1 hy1 hz1 hp).mono ?_) (fun _ => by simp only [List.getElem_cons_succ, List.getElem_cons_zero] ; go_simp)
        rintro e w3 ⟨rfl, hb3⟩
        rw [HO.out]
        refine ⟨_, rfl, hb3, ?_⟩
        simp only [Act.put, List.getElem_cons_succ, List.getElem_cons_zero, List.setIfInBounds_toArray, List.set_cons_zero, List.set_cons_succ]
        refine wpR_take 7 (v := ?_) later_moves (by decide) (by kernel_rfl) (by kernel_rfl) (by kernel_rfl) (fun _ _ _ h => h) (wantedT (by rfl) ?_) ?_ ; rotate_left ; · ( intro w' hR ; simp only [List.getElem_cons_succ, List.getElem_cons_zero] ; go_simp ; try with_reducible rfl )
        simp only [Act.put, List.getElem_cons_succ, List.getElem_cons_zero, List.setIfInBounds_toArray, List.set_cons_zero, List.set_cons_succ]
        refine wpR_done (by kernel_rfl) ?_
        go_wp2
        go_ret
        refine ⟨by rw [E.out, List.all_eq_false.2 ⟨rows[j], List.getElem_mem HL.out, fun h => Bool.noConfusion (HO.out.symm.trans h)⟩]; rfl, below_chain hbw hb3⟩
      · have HO := Lib.hid bo
        clear bo
        go_wp2_with fail
        refine wpR_begin Later (by kernel_rfl) ?_
        refine wpR_take 0 (v := tabV p pub vars (.slice (some ⟨b, q, none⟩) rows.length c)) later_moves (by decide) (by kernel_rfl) (by kernel_rfl) (by kernel_rfl) (fun _ _ _ h => h) (wantedT (by rfl) ?_) ?_ ; · ( intro w' hR ; simp only [List.getElem_cons_succ, List.getElem_cons_zero] ; unfold tabV ; have q0 := (hBr.below hR hBr.lt).cell 0 ; have q1 := (hBr.below hR hBr.lt).cell 1 ; have q2 := (hBr.below hR hBr.lt).cell 2 ; have q3 := (hBr.below hR hBr.lt).cell 3 ; simp at q0 q1 q2 q3 ; go_simp )
        simp only [Act.put, List.getElem_cons_succ, List.getElem_cons_zero, List.setIfInBounds_toArray, List.set_cons_zero, List.set_cons_succ]
        refine wpR_take 1 (v := ?_) later_moves (by decide) (by kernel_rfl) (by kernel_rfl) (by kernel_rfl) (fun _ _ _ h => h) (wantedT (by rfl) ?_) ?_ ; rotate_left ; · ( intro w' hR ; simp only [List.getElem_cons_succ, List.getElem_cons_zero] ; go_simp ; try with_reducible rfl )
        simp only [Act.put, List.getElem_cons_succ, List.getElem_cons_zero, List.setIfInBounds_toArray, List.set_cons_zero, List.set_cons_succ]
        refine wpR_take 2 (v := .slice (some ⟨b, q, none⟩) rows.length c) later_moves (by decide) (by kernel_rfl) (by kernel_rfl) (by kernel_rfl) (fun _ _ _ h => h) (wantedT (by rfl) ?_) ?_ ; · ( intro w' hR ; simp only [List.getElem_cons_succ, List.getElem_cons_zero] ; have q3 := (hBr.below hR hBr.lt).cell 3 ; simp at q3 ; go_simp )
        simp only [Act.put, List.getElem_cons_succ, List.getElem_cons_zero, List.setIfInBounds_toArray, List.set_cons_zero, List.set_cons_succ]
        refine wpR_take 3 (v := ?_) later_moves (by decide) (by kernel_rfl) (by kernel_rfl) (by kernel_rfl) (fun _ _ _ h => h) (wantedT (by rfl) ?_) ?_ ; rotate_left ; · ( intro w' hR ; simp only [List.getElem_cons_succ, List.getElem_cons_zero] ; go_simp ; try with_reducible rfl )
        simp only [Act.put, List.getElem_cons_succ, List.getElem_cons_zero, List.setIfInBounds_toArray, List.set_cons_zero, List.set_cons_succ]
        refine wpR_take 4 (v := ?_) later_moves (by decide) (by kernel_rfl) (by kernel_rfl) (by kernel_rfl) (fun _ _ _ h => h) (wantedT (by rfl) ?_) ?_ ; rotate_left ; · ( intro w' hR ; simp only [List.getElem_cons_succ, List.getElem_cons_zero] ; go_simp ; try with_reducible rfl )
        simp only [Act.put, List.getElem_cons_succ, List.getElem_cons_zero, List.setIfInBounds_toArray, List.set_cons_zero, List.set_cons_succ]
        refine wpR_take 5 (v := .agg #[x, y, z]) later_moves (by decide) (by kernel_rfl) (by kernel_rfl) (by kernel_rfl) (fun _ _ _ h => h) (wantedT (by rfl) ?_) ?_ ; · ( intro w' hR ; simp only [List.getElem_cons_succ, List.getElem_cons_zero] ; have r0 := later_cell hR h0 ; have r1 := later_cell hR h1 ; have r2 := later_cell hR h2 ; go_simp )
        simp only [Act.put, List.getElem_cons_succ, List.getElem_cons_zero, List.setIfInBounds_toArray, List.set_cons_zero, List.set_cons_succ]
        refine wpR_call 6 later_moves (by decide) (by kernel_rfl) (by rfl) ((rRow_any p pub vars (.slice (some ⟨b, q, none⟩) rows.length c) rows[j] x y z _ hx1 hy1 hz1 hp).mono ?_) (fun _ => by simp only [List.getElem_cons_succ, List.getElem_cons_zero] ; go_simp)
        rintro e w3 ⟨rfl, hb3⟩
        rw [HO.out]
        refine ⟨_, rfl, hb3, ?_⟩
        simp only [Act.put, List.getElem_cons_succ, List.getElem_cons_zero, List.setIfInBounds_toArray, List.set_cons_zero, List.set_cons_succ]
        refine wpR_take 7 (v := ?_) later_moves (by decide) (by kernel_rfl) (by kernel_rfl) (by kernel_rfl) (fun _ _ _ h => h) (wantedT (by rfl) ?_) ?_ ; rotate_left ; · ( intro w' hR ; simp only [List.getElem_cons_succ, List.getElem_cons_zero] ; go_simp ; try with_reducible rfl )
        simp only [Act.put, List.getElem_cons_succ, List.getElem_cons_zero, List.setIfInBounds_toArray, List.set_cons_zero, List.set_cons_succ]
        refine wpR_done (by kernel_rfl) ?_
        go_wp2
        go_roundw
        case rel =>
          refine ⟨j + 1, by omega, by go_num, below_chain hbr.drew hb3, fun k hk h => ?_⟩
          rcases Nat.lt_or_ge k j with h5 | h5
          · exact HB.out k h5 h
          · have e : k = j := by omega
            subst e
            exact HO.out
        case measure => simp [intOf]; omega
    · go_wp2
      go_ret
      have e : j = rows.length := by omega
      refine ⟨by rw [E.out, List.all_eq_true.2 (fun r hr => by obtain ⟨k, hk, rfl⟩ := List.getElem_of_mem hr; exact HB.out k (by omega) hk)]; rfl, below_chain hb1 hbr⟩
end Go.Proofs.YtefnagiffllhbaaGreat

/- RefF -/
namespace Go.Proofs.YtefnagiffllhbaaGreat
open Go.RowKit

/-- Whether a list is an assignment. -/
def asgOk (p : Nat) (vars : Int) (l : List Nat) : Bool := !((l.length : Int) != vars) && !((l.length : Int) == 0) && !(((l.getD 0 0 : Nat) : Int) != 1) && l.all fun x => decide (x < p)

/-- A word of a list, read. -/
theorem RWd.at_ {w : World} {A : Option Addr} {l : List Nat} (h : Rd w 1 A l.length (U64 l)) {i : Nat} (hi : i < l.length) : ∃ ad, A = some ad ∧ w.cell? (ad.add i) = some (.int .u64 ((l.getD i 0 : Nat) : Int)) := by
  obtain ⟨ad, u, rfl, hu, hc⟩ := h.at_ hi
  rw [at_U64 hi] at hu
  injection hu with hu
  subst hu
  exact ⟨ad, rfl, by simpa [hi] using hc⟩

set_option maxRecDepth 100000 in
set_option maxHeartbeats 4000000 in
theorem rAssign_any (p : Nat) (pub vars : Int) (T : Value) (A : Option Addr) (n c : Nat) (l : List Nat) (w : World) (hl : RWd w [.slice A n c] l) (_hp : p < 18446744073709551616) :
    Calls Tryz.prog 71 #[tabV p pub vars T, .slice A n c] w fun e w' => e = .returned (.bool (asgOk p vars l)) ∧ Below w.heap.size w w' := by
  obtain ⟨A', n', c', he, hnc, hmx, hrd, hlt⟩ := hl
  simp at he
  obtain ⟨rfl, rfl, rfl⟩ := he
  have hlen := hrd.len1
  rw [len_U64] at hlen
  subst hlen
  unfold tabV
  have hb0 : ∀ o, Below w.heap.size w (w.alloc o) := fun o => (Below.refl _ w).alloc (Nat.le_refl _) _
  by_cases z1 : (l.length : Int) = vars
  · subst z1
    rcases Nat.eq_zero_or_pos l.length with z2 | z2
    · have E := Lib.hid (show asgOk p (l.length : Int) l = false by simp [asgOk, z2])
      rw [z2]
      rw [z2] at E
      go_enter Tryz.func71, Tryz.ntmps71
      go_wp2_with fail
      go_ret
      exact ⟨by rw [E.out]; rfl, hb0 _⟩
    · obtain ⟨ad, rfl, hc⟩ := RWd.at_ (hrd.below (hb0 (.cells #[.int .u64 (p : Int), .int .i64 pub, .int .i64 (l.length : Int), T] 25))) z2
      have g0 : ((l.length : Int) == 0) = false := by rw [beq_eq_false_iff_ne]; omega
      have g1 : (0 : Int) < (l.length : Int) := by omega
      have gm : (l.length : Int) ≤ 9223372036854775807 := by
        have h3 := hnc
        have h4 := hmx
        simp [maxLen] at h4
        omega
      by_cases z3 : l.getD 0 0 = 1
      · have hc0 : (w.alloc (.cells #[.int .u64 (p : Int), .int .i64 pub, .int .i64 (l.length : Int), T] 25)).cell? ad = some (.int .u64 1) := by
          rw [z3] at hc
          simpa [Addr.add] using hc
        have E := Lib.hid (show asgOk p (l.length : Int) l = l.all fun x => decide (x < p) by unfold asgOk; rw [z3, g0]; simp)
        clear hc z3
        go_enter Tryz.func71, Tryz.ntmps71
        go_wp2_with fail
        go_loopw [5] (fun i wr => ∃ j kk : Nat, j ≤ l.length ∧ i = .int .i64 (j : Int) ∧ wr = (w.alloc (.cells #[.int .u64 (p : Int), .int .i64 pub, .int .i64 (l.length : Int), T] 25)).drewN kk ∧ Hid (∀ k < j, l.getD k 0 < p))
          (fun i _ => l.length - (intOf i).toNat)
        case atStart => exact ⟨0, 0, Nat.zero_le _, rfl, rfl, fun k hk => by omega⟩
        case round =>
          obtain ⟨j, kk, hj, rfl, rfl, HB⟩ := hrel
          by_cases hjl : j < l.length
          · obtain ⟨ad', he', hc⟩ := RWd.at_ (hrd.below (hb0 (.cells #[.int .u64 (p : Int), .int .i64 pub, .int .i64 (l.length : Int), T] 25))) hjl
            injection he' with he'
            subst he'
            have g2 : (0 : Int) ≤ (j : Int) := by omega
            have g3 : (j : Int) < (l.length : Int) := by omega
            have HL := Lib.hid hjl
            have HY : Hid (l.getD j 0 = l.getD j 0) := rfl
            revert hc HY
            generalize hy : l.getD j 0 = y
            intro hc _
            have HY := Lib.hid hy
            clear hy
            by_cases z4 : p ≤ y
            · have d4 : decide ((p : Int) ≤ (y : Int)) = true := decide_eq_true (by omega)
              have HZ := Lib.hid z4
              clear hrd z4
              go_wp2_with fail
              go_quiet (fail)
              go_wp2
              go_ret
              have HA : (l.all fun x => decide (x < p)) = false := by
                refine List.all_eq_false.2 ⟨l[j]'HL.out, List.getElem_mem HL.out, ?_⟩
                have h1 := HY.out
                have h2 := HZ.out
                simp [HL.out] at h1
                simp [h1]
                omega
              exact ⟨by rw [E.out, HA]; rfl, below_drewN (below_drewN (hb0 _) _) _⟩
            · have d4 : decide ((p : Int) ≤ (y : Int)) = false := decide_eq_false (by omega)
              have HZ := Lib.hid z4
              clear hrd z4
              go_wp2_with fail
              go_quiet (fail)
              go_wp2
              go_roundw
              case rel =>
                refine ⟨j + 1, _, by omega, by go_num, rfl, fun k hk => ?_⟩
                rcases Nat.lt_or_ge k j with h5 | h5
                · exact HB.out k h5
                · have e : k = j := by omega
                  subst e
                  have h1 := HY.out
                  have h2 := HZ.out
                  omega
              case measure => simp [intOf]; omega
          · go_wp2
            go_ret
            have e : j = l.length := by omega
            have HA : (l.all fun x => decide (x < p)) = true := by
              refine List.all_eq_true.2 ?_
              intro x hx
              obtain ⟨k, hk, rfl⟩ := List.getElem_of_mem hx
              have := HB.out k (by omega)
              simpa [hk] using this
            exact ⟨by rw [E.out, HA]; rfl, below_drewN (hb0 _) _⟩
      · have hc0 : (w.alloc (.cells #[.int .u64 (p : Int), .int .i64 pub, .int .i64 (l.length : Int), T] 25)).cell? ad = some (.int .u64 ((l.getD 0 0 : Nat) : Int)) := by simpa [Addr.add] using hc
        have d3 : (((l.getD 0 0 : Nat) : Int) != 1) = true := by rw [bne_iff_ne]; omega
        have E := Lib.hid (show asgOk p (l.length : Int) l = false by unfold asgOk; rw [d3]; simp)
        clear hc z3
        revert hc0 d3
        generalize l.getD 0 0 = y
        intro hc0 d3
        go_enter Tryz.func71, Tryz.ntmps71
        go_wp2_with fail
        go_ret
        exact ⟨by rw [E.out]; rfl, hb0 _⟩
  · have d1 : ((l.length : Int) != vars) = true := by rw [bne_iff_ne]; exact z1
    have E := Lib.hid (show asgOk p vars l = false by simp [asgOk, z1])
    go_enter Tryz.func71, Tryz.ntmps71
    go_wp2_with fail
    go_ret
    exact ⟨by rw [E.out]; rfl, hb0 _⟩

/-- A quotient, rounded up. -/
theorem up_any (n k : Nat) (w : World) (hn : n ≤ 1000000000) (hk : 0 < k) (hk2 : k ≤ 1000000000) :
    Calls Tryz.prog 114 #[.int .i64 (n : Int), .int .i64 (k : Int)] w fun e w' => e = .returned (.int .i64 (((n + k - 1) / k : Nat) : Int)) ∧ w' = w := by
  obtain ⟨m, rfl⟩ : ∃ m, k = m + 1 := ⟨k - 1, by omega⟩
  have e1 : Hid (((n + (m + 1) - 1) / (m + 1) : Nat) = (n + m) / (m + 1)) := rfl
  go_enter Tryz.func114, Tryz.ntmps114
  go_wp2_with fail
  go_ret
  refine ⟨?_, rfl⟩
  show Ending.returned (.int .i64 (((n : Int) + ((m : Int) + 1) - 1) / ((m : Int) + 1))) = _
  rw [show (n : Int) + ((m : Int) + 1) - 1 = ((n + (m + 1) - 1 : Nat) : Int) from by omega]
  rfl
end Go.Proofs.YtefnagiffllhbaaGreat

/- RefI -/
namespace Go.Proofs.YtefnagiffllhbaaGreat
open Go.RowKit

/-- A slice of one-cell elements, from its base. -/
theorem rd_base {w : World} {A : Option Addr} {n : Nat} {xs : List Value} (h : Rd w 1 A n xs) (hn : 0 < n) : ∃ b q, A = some ⟨b, q, none⟩ ∧ b < w.heap.size ∧ ∀ k, k < n → w.cell? ⟨b, q + k, none⟩ = xs[k]? := by
  obtain ⟨ad, rfl, hc⟩ := h.2 hn
  have hl := h.len1
  have h0 := hc 0 _ (List.getElem?_eq_getElem (by omega))
  obtain ⟨b, q, rfl⟩ : ∃ b q, ad = ⟨b, q, none⟩ := by
    have hs := World.cell?_spot h0
    rw [add_zero'] at hs
    obtain ⟨b, q, s⟩ := ad
    simp at hs
    subst hs
    exact ⟨b, q, rfl⟩
  refine ⟨b, q, rfl, World.block_lt_of_cell? _ _ (by rw [add_zero'] at h0; exact h0), fun k hk => ?_⟩
  rw [← add_none, hc k _ (List.getElem?_eq_getElem (by omega)), List.getElem?_eq_getElem (by omega)]

def linStep (p : Nat) (ws : List Nat) (s : Nat) (t : Int × Nat) : Nat := if 0 ≤ t.1 ∧ t.1 < (ws.length : Int) then (s + t.2 * ws.getD t.1.toNat 0 % p) % p else s
def linVal (p : Nat) (l : List (Int × Nat)) (ws : List Nat) : Nat := l.foldl (linStep p ws) 0
theorem linVal_snoc (p : Nat) (l : List (Int × Nat)) (ws : List Nat) (j : Nat) (h : j < l.length) : linVal p (l.take (j + 1)) ws = linStep p ws (linVal p (l.take j) ws) (l.getD j (0, 0)) := by
  unfold linVal
  rw [List.take_succ_eq_append_getElem h, List.foldl_append]
  simp [h]

set_option maxRecDepth 100000 in
set_option maxHeartbeats 4000000 in
theorem rValue_any (p : Nat) (A B : Option Addr) (len c n d : Nat) (l : List (Int × Nat)) (ws : List Nat) (w : World) (hl : RLin w [.slice A len c] l) (hw : RWd w [.slice B n d] ws) (hp : okP p = true) :
    Calls Tryz.prog 52 #[.int .u64 p, .slice A len c, .slice B n d] w fun e w' => e = .returned (.int .u64 (linVal p l ws : Nat)) ∧ Below w.heap.size w w' := by
  obtain ⟨A', n', c', he, hlen, hnc, hmx, hrd⟩ := hl
  simp at he
  obtain ⟨rfl, rfl, rfl⟩ := he
  subst hlen
  obtain ⟨B', m', d', he, hmd, hmy, hrw, hlw⟩ := hw
  simp at he
  obtain ⟨rfl, rfl, rfl⟩ := he
  have hm : ws.length = n := by have := hrw.len1; rwa [len_U64] at this
  subst hm
  have g0 : (l.length : Int) ≤ 9223372036854775807 := by
    simp [maxLen] at hmx
    omega
  go_enter Tryz.func52, Tryz.ntmps52
  go_wp2_with fail
  go_loopw [7, 8] (fun s i wr => ∃ j : Nat, j ≤ l.length ∧ i = .int .i64 (j : Int) ∧ s = .int .u64 (linVal p (l.take j) ws : Nat) ∧ Below w.heap.size w wr)
    (fun _ i _ => l.length - (intOf i).toNat)
  case atStart => exact ⟨0, Nat.zero_le _, rfl, rfl, Below.refl _ _⟩
  case round =>
    obtain ⟨j, hj, rfl, rfl, hb⟩ := hrel
    by_cases hlt : j < l.length
    · have HS := Lib.hid (linVal_snoc p l ws j hlt)
      revert HS
      generalize linVal p (l.take j) ws = s
      intro HS
      obtain ⟨b, q, rfl⟩ := hrd.base (by omega) (by omega)
      have hrd' := hrd.below kept_RTerm hb
      obtain ⟨c1, c2⟩ := RLin.at_ hrd' hlt
      have hbl := World.block_lt_of_cell? _ _ c1
      have HL := Lib.hid hlt
      have g1 : (0 : Int) ≤ (j : Int) := by omega
      have g2 : (j : Int) < (l.length : Int) := by omega
      have HW := Lib.hid (fun (k : Nat) (hk : k < ws.length) => (rd_base (hrw.below hb) (by omega)).imp fun b' h => h.imp fun q' h => (⟨h.1, h.2.1, (h.2.2 k hk).trans (at_U64 hk)⟩ : _ ∧ _ ∧ _ = some (Value.int .u64 (ws[k] : Int))))
      revert c1 c2 HS
      generalize hx : (l.getD j (0, 0)) = t
      obtain ⟨x, y⟩ := t
      clear hx
      simp only
      intro HS c1 c2
      clear hrd hrd' hrw
      by_cases z1 : x < 0
      · have d1 : decide (0 ≤ x) = false := decide_eq_false (by omega)
        have HE := Lib.hid (show linVal p (l.take (j + 1)) ws = s by rw [HS.out, linStep, if_neg (by simp; omega)])
        go_wp2_with fail
        go_roundw
        case rel => exact ⟨j + 1, by omega, by go_num, by rw [HE.out], hb⟩
        case measure => simp [intOf]; omega
      · obtain ⟨k, rfl⟩ := Int.eq_ofNat_of_zero_le (show 0 ≤ x by omega)
        by_cases z2 : k < ws.length
        · have d1 : decide ((0 : Int) ≤ (k : Int)) = true := decide_eq_true (by omega)
          have d2 : decide ((k : Int) < (ws.length : Int)) = true := decide_eq_true (by omega)
          obtain ⟨b', q', rfl, hbl', c3⟩ := HW.out k z2
          have HE := Lib.hid (show linVal p (l.take (j + 1)) ws = (s + y * ws[k] % p) % p by rw [HS.out, linStep, if_pos (by simp; omega)]; show (s + y * ws.getD ((k : Int)).toNat 0 % p) % p = _; rw [Int.toNat_natCast, List.getD_eq_getElem?_getD, List.getElem?_eq_getElem z2, Option.getD_some])
          clear HW HS
          revert c3 HE
          generalize ws[k] = v
          have HM := Lib.hid (fun w => rMul_any p y v w hp)
          revert HM
          generalize y * v % p = m
          intro HM c3 HE
          have i1 : (0 : Int) ≤ (k : Int) := by omega
          have i2 : (k : Int) < (ws.length : Int) := by omega
          go_wp2_with fail
          refine wpO_begin (Later) [16, 17] [0, 1, 2, 3, 4, 5, 6, 7, 8, 9, 10, 11, 12, 13, 14, 15, 16, 17, 18] (by kernel_rfl) (by kernel_rfl) ?_
          refine wpO_start (later_moves) ?_
          intro Wc hacc
          repeat (first | (refine wpO_skip (later_moves) rfl rfl (fun _ _ _ h => h) ?_ ; simp only [Act.put, List.setIfInBounds_toArray, List.set_cons_zero, List.set_cons_succ]) | (refine wpO_light (v := ?_) (later_moves) rfl rfl (fun _ _ _ h => h) ?_ ?_ ; rotate_left ; (· (intro w' hR ; (first | have hcells := later_cellsD ((later_moves).trans _ _ _ hacc hR) | skip) ; go_simp ; try with_reducible rfl)) ; simp only [Act.put, List.setIfInBounds_toArray, List.set_cons_zero, List.set_cons_succ]))
          refine wpO_call (later_moves) rfl rfl rfl (fun _ => by go_simp <;> rfl) ((HM.out _).mono ?_)
          rintro e w2 ⟨rfl, hb2⟩
          refine ⟨_, rfl, hb2, ?_⟩
          replace hacc := (later_moves).trans _ _ _ hacc (hb2)
          simp only [Act.put, List.setIfInBounds_toArray, List.set_cons_zero, List.set_cons_succ]
          repeat (first | (refine wpO_skip (later_moves) rfl rfl (fun _ _ _ h => h) ?_ ; simp only [Act.put, List.setIfInBounds_toArray, List.set_cons_zero, List.set_cons_succ]) | (refine wpO_light (v := ?_) (later_moves) rfl rfl (fun _ _ _ h => h) ?_ ?_ ; rotate_left ; (· (intro w' hR ; (first | have hcells := later_cellsD ((later_moves).trans _ _ _ hacc hR) | skip) ; go_simp ; try with_reducible rfl)) ; simp only [Act.put, List.setIfInBounds_toArray, List.set_cons_zero, List.set_cons_succ]))
          refine wpO_call (later_moves) rfl rfl rfl (fun _ => by go_simp <;> rfl) ((rAdd_any p s m _ hp).mono ?_)
          rintro e w3 ⟨rfl, hb3⟩
          refine ⟨_, rfl, hb3, ?_⟩
          replace hacc := (later_moves).trans _ _ _ hacc (hb3)
          simp only [Act.put, List.setIfInBounds_toArray, List.set_cons_zero, List.set_cons_succ]
          repeat (first | (refine wpO_skip (later_moves) rfl rfl (fun _ _ _ h => h) ?_ ; simp only [Act.put, List.setIfInBounds_toArray, List.set_cons_zero, List.set_cons_succ]) | (refine wpO_light (v := ?_) (later_moves) rfl rfl (fun _ _ _ h => h) ?_ ?_ ; rotate_left ; (· (intro w' hR ; (first | have hcells := later_cellsD ((later_moves).trans _ _ _ hacc hR) | skip) ; go_simp ; try with_reducible rfl)) ; simp only [Act.put, List.setIfInBounds_toArray, List.set_cons_zero, List.set_cons_succ]))
          refine wpO_done ?_
          go_wp2
          go_roundw
          case rel => exact ⟨j + 1, by omega, by go_num, by rw [HE.out]; rfl, below_chain hb.drew hacc⟩
          case measure => simp [intOf]; omega
        · have d1 : decide ((0 : Int) ≤ (k : Int)) = true := decide_eq_true (by omega)
          have d2 : decide ((k : Int) < (ws.length : Int)) = false := decide_eq_false (by omega)
          have HE := Lib.hid (show linVal p (l.take (j + 1)) ws = s by rw [HS.out, linStep, if_neg (by simp; omega)])
          go_wp2_with fail
          go_roundw
          case rel => exact ⟨j + 1, by omega, by go_num, by rw [HE.out], hb⟩
          case measure => simp [intOf]; omega
    · go_wp2
      go_ret
      have e : j = l.length := by omega
      subst e
      exact ⟨by rw [List.take_length]; rfl, hb⟩
/-- Some bool is handed back. -/
def SomeBool (e : Ending) : Prop := ∃ b, e = .returned (.bool b)

def rowOkV (p : Nat) (r : RowR) (ws : List Nat) : Bool := decide (linVal p r.a ws * linVal p r.b ws % p = linVal p r.c ws)

/-- Some number is handed back. -/
def SomeInt (e : Ending) : Prop := ∃ n : Int, e = .returned (.int .i64 n)

theorem tabOk_p {p : Nat} {pub vars : Int} {rows : List RowR} (h : tabOk p pub vars rows = true) : okP p = true := by
  unfold tabOk at h
  simp only [Bool.and_eq_true] at h
  exact h.1.1.1.1.1

end Go.Proofs.YtefnagiffllhbaaGreat

/- Wd -/
namespace Go.Proofs.YtefnagiffllhbaaGreat
open Go.RowKit

/-- A word of a list that lies in memory. -/
theorem lw_at {w : World} {A : Option Addr} {n c : Nat} {l : List Nat} (h : RWd w [.slice A n c] l) : n = l.length ∧ n ≤ c ∧ c ≤ maxLen ∧ (∀ x ∈ l, x < 18446744073709551616) ∧ Rd w 1 A n (U64 l) := by
  obtain ⟨A', n', c', he, h1, h2, h3, h4⟩ := h
  simp at he
  obtain ⟨rfl, rfl, rfl⟩ := he
  have := h3.len1
  rw [len_U64] at this
  exact ⟨this.symm, h1, h2, h4, h3⟩
theorem lw_get {w : World} {A : Option Addr} {l : List Nat} (h : Rd w 1 A l.length (U64 l)) {j : Nat} (hj : j < l.length) : ∃ b q, A = some ⟨b, q, none⟩ ∧ b < w.heap.size ∧ w.cell? ⟨b, q + j, none⟩ = some (.int .u64 ((l.getD j 0 : Nat) : Int)) := by
  obtain ⟨b, q, e, hb, hc⟩ := rd_base h (by omega)
  refine ⟨b, q, e, hb, ?_⟩
  rw [hc j hj, at_U64 hj, List.getD_eq_getElem?_getD, List.getElem?_eq_getElem hj]
  rfl
theorem lw_max {n c : Nat} (h1 : n ≤ c) (h2 : c ≤ maxLen) : (n : Int) ≤ 9223372036854775807 := by
  simp [maxLen] at h2
  omega
theorem lw_getD {l : List Nat} {B : Nat} (h : ∀ x ∈ l, x < B) {k : Nat} (hk : k < l.length) : l.getD k 0 < B := by
  rw [List.getD_eq_getElem?_getD, List.getElem?_eq_getElem hk]
  exact h _ (List.getElem_mem _)
theorem lw_snoc (l : List Nat) (k : Nat) (h : k < l.length) : l.take (k + 1) = l.take k ++ [l.getD k 0] := by
  rw [List.take_succ_eq_append_getElem h, List.getD_eq_getElem?_getD, List.getElem?_eq_getElem h]
  rfl
theorem lw_fold {β : Type} (f : β → Nat → β) (b : β) (l : List Nat) (k : Nat) (h : k < l.length) : (l.take (k + 1)).foldl f b = f ((l.take k).foldl f b) (l.getD k 0) := by
  rw [lw_snoc l k h, List.foldl_append]
  rfl
/-- A slice of words that the call owns reads as words. -/
theorem lw_own {w : World} {base : Nat} {e : TypeId} {A : Option Addr} {c n : Nat} {l : List Nat} (h : w.ownsRow base e 1 (.slice A n c) n (U64 l)) (hl : ∀ x ∈ l, x < 18446744073709551616) : RWd w [.slice A n c] l := by
  obtain ⟨A', c', he, h1, h2, h3, -⟩ := own_form h
  simp at he
  obtain ⟨rfl, rfl⟩ := he
  exact ⟨A, n, c, rfl, h1, h2, h3, hl⟩
theorem lw_grow {W W' : World} {B : Nat} {e : TypeId} {size : Nat} {v : Value} {n : Nat} {xs : List Value} (h : W.ownsRow B e size v n xs) (hg : W.grownBy W' v.ownBlock) (hB : B ≤ W.heap.size) : Below B W W' :=
  below_of_grown hg B hB fun g e => (h.lt g e).1
theorem lw_app {w : World} {B m : Nat} {t : TypeId} {v : Value} {a b c : List Nat} (h : w.ownsRow B t 1 v m (U64 a ++ U64 b)) (e : a ++ b = c) : w.ownsRow B t 1 v m (U64 c) := by
  rw [← e, U64_append]
  exact h
/-- A literal of words. -/
theorem lw_lit {w : World} {g : Nat} {t : TypeId} {l : List Nat} (h : Blk w g t (U64 l).toArray) (hl : ∀ x ∈ l, x < 18446744073709551616) (hm : l.length ≤ maxLen) : RWd w [.slice (some ⟨g, 0, none⟩) l.length l.length] l := by
  refine ⟨_, _, _, rfl, Nat.le_refl _, hm, ⟨by rw [len_U64, Nat.mul_one], fun _ => ⟨_, rfl, fun j u hu => ?_⟩⟩, hl⟩
  rw [add_none, Nat.zero_add, h.cell]
  simpa using hu
end Go.Proofs.YtefnagiffllhbaaGreat
