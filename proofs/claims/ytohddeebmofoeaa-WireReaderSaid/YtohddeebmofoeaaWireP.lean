/-
  WireReader: the walk of the law.
-/
import Derived.Test.YtohddeebmofoeaaWireN
namespace Go.Proofs.Ytohddeebmofoeaa
open Go.RowKit

theorem do_any (g1 g2 bd2 : Nat) (bd : Nat × Nat) (o : OpR) (l : List Nat) (f : Bool) (w : World) (hw : WR w g1 bd l f) (hm : RR w g2 bd2 l f) (h12 : g1 < g2) (hbd : bd.2 ≤ g1) (hbd2 : bd2 ≤ g1) :
    Calls Try.prog 24 #[.pointer (some ⟨g1, 0, none⟩), .pointer (some ⟨g2, 0, none⟩), .agg #[.int .u8 (o.kind : Int), .int .i64 o.most, .int .u64 (o.p : Int)]] w fun e w' =>
      e = .returned (.bool true) ∧ ∃ l' f', WR w' g1 bd l' f' ∧ RR w' g2 bd2 l' f' ∧ Only2 g1 g2 w w' := by
  have h4 : o.kind % 4 = 0 ∨ o.kind % 4 = 1 ∨ o.kind % 4 = 2 ∨ o.kind % 4 = 3 := by omega
  rcases h4 with h | h | h | h
  · exact (do_0 g1 g2 bd2 bd o l f w hw hm h12 hbd hbd2 h).mono fun e w' ⟨h1, h2, h3, h4⟩ => ⟨h1, _, _, h2, h3, h4⟩
  · exact (do_1 g1 g2 bd2 bd o l f w hw hm h12 hbd hbd2 h).mono fun e w' ⟨h1, h2, h3, h4⟩ => ⟨h1, _, _, h2, h3, h4⟩
  · exact (do_2 g1 g2 bd2 bd o l f w hw hm h12 hbd hbd2 h).mono fun e w' ⟨h1, h2, h3, h4⟩ => ⟨h1, _, _, h2, h3, h4⟩
  · exact (do_3 g1 g2 bd2 bd o l f w hw hm h12 hbd hbd2 h).mono fun e w' ⟨h1, h2, h3, h4⟩ => ⟨h1, _, _, h2, h3, h4⟩

set_option maxHeartbeats 400000 in
theorem wireReader_out (A C : Option Addr) (n c m d : Nat) (w : World) (h : 1000 < n ∨ 40 < m) (hn : n ≤ 9223372036854775807) (hm : m ≤ 9223372036854775807) :
    Calls Try.prog 6 #[.slice A n c, .slice C m d] w fun e w' => e = .returned (.bool true) ∧ Below w.heap.size w w' := by
  by_cases h0 : 1000 < n
  · have hd0 : decide ((1000 : Int) < (n : Int)) = true := by simp; omega
    go_enter Try.func6, Try.ntmps6
    go_wp2_with fail
    refine (awake_any _).mono ?_
    rintro e w1 ⟨rfl, hb1⟩
    go_wp2_with fail
    refine (awake_any _).mono ?_
    rintro e w2 ⟨rfl, hb2⟩
    go_wp2
    go_ret
    exact ⟨rfl, below_chain hb1 hb2⟩
  · have hd0 : decide ((1000 : Int) < (n : Int)) = false := by simp; omega
    have hd1 : decide ((40 : Int) < (m : Int)) = true := by simp; omega
    go_enter Try.func6, Try.ntmps6
    go_wp2_with fail
    refine (awake_any _).mono ?_
    rintro e w1 ⟨rfl, hb1⟩
    go_wp2_with fail
    refine (awake_any _).mono ?_
    rintro e w2 ⟨rfl, hb2⟩
    go_wp2
    go_ret
    exact ⟨rfl, below_chain hb1 hb2⟩


set_option maxHeartbeats 4000000 in
set_option linter.unusedSimpArgs false in
theorem wireReader_in (A C : Option Addr) (n c m d : Nat) (lb : List Nat) (os : List OpR) (w : World) (hr : Rd w 1 A n (U8 lb)) (hnc : n ≤ c) (hl : ∀ x ∈ lb, x < 256) (ho : RdOps w C os) (hom : os.length = m) (hn : n ≤ 1000) (hm : m ≤ 40) :
    Calls Try.prog 6 #[.slice A n c, .slice C m d] w fun e w' => e = .returned (.bool true) ∧ Below w.heap.size w w' := by
  have hd : decide ((1000 : Int) < (n : Int)) = false := by simp; omega
  have hd2 : decide ((40 : Int) < (m : Int)) = false := by simp; omega
  have HM := Lib.hid hom
  clear hom
  go_enter Try.func6, Try.ntmps6
  go_wp2_with fail
  refine (awake_any _).mono ?_
  rintro e w1 ⟨rfl, hb1⟩
  go_wp2_with (at_builtin; refine wpl_append rfl _ _ rfl el_u8 rfl (own_empty _ _ (Nat.le_refl _)) rfl ((hr.below hb1).alloc _) (one_U8 _) ?_ ?_ ?_)
  · omega
  · simp
  intro v7 w7 hv7 hg7 _
  have hb7 : Below w.heap.size w w7 := (hb1.alloc hb1.size _).grown hg7 (by have := hb1.size; simp; omega) (fun k hk => by simp [Value.ownBlock] at hk; subst hk; exact hb1.size)
  obtain ⟨A7, c7, rfl, _, _, hr7, _⟩ := own_form hv7
  clear hv7 hg7
  go_wp2_with fail
  refine (newReader_any A7 n c7 lb w7 hr7 (by omega) hl).mono ?_
  rintro e w8 ⟨g1, bd, rfl, hw8, hg8, _, hsz8, hb8⟩
  have hb08 := below_chain hb7 hb8
  have hbd : bd.2 ≤ g1 := by obtain ⟨_, _, _, _, _, _, _, hA, _⟩ := hw8; exact hA.2
  have hm9 : RR (w8.alloc (.cells #[.slice A n c, .bool false] 43)) w8.heap.size w.heap.size lb false :=
    ⟨A, n, c, Blk.new _ _ _, (hr.below hb08).alloc _, ⟨fun ad e h0 => by
      obtain ⟨ad', e', hc'⟩ := hr.2 h0
      rw [e] at e'
      injection e' with e'
      subst e'
      have hl0 : 0 < (U8 lb).length := by rw [hr.len1]; exact h0
      have := World.block_lt_of_cell? _ _ (hc' 0 _ (List.getElem?_eq_getElem hl0))
      rwa [blk_add] at this, hb08.size⟩, hnc, by omega, hl⟩
  have hw9 := hw8.below ((Below.refl _ _).alloc (Nat.le_refl _) (.cells #[.slice A n c, .bool false] 43)) (Nat.le_refl _)
  have hb9 := hb08.alloc hb08.size (.cells #[.slice A n c, .bool false] 43)
  obtain ⟨g2, hg2⟩ : ∃ g2, g2 = w8.heap.size := ⟨_, rfl⟩
  have h12 : g1 < g2 := by omega
  have hB1 : w.heap.size ≤ g1 := by have := hb7.size; omega
  have hB2 : w.heap.size ≤ g2 := by omega
  have hbd2 : w.heap.size ≤ g1 := hB1
  rw [← hg2] at hm9
  have HG := Lib.hid hg2
  clear hg2 hw8 hr7 hb7 hb8 hb08 hr hg8 hsz8 hb1
  go_wp2_with fail
  rw [← HG.out]
  go_loopw [33] (fun i wr => ∃ (j : Nat) (l : List Nat) (f : Bool), j ≤ m ∧ i = .int .i64 (j : Int) ∧ WR wr g1 bd l f ∧ RR wr g2 w.heap.size l f ∧ Below w.heap.size w wr)
    (fun i _ => m - (intOf i).toNat)
  case atStart => exact ⟨0, lb, false, Nat.zero_le _, rfl, hw9, hm9, hb9⟩
  case round =>
    obtain ⟨j, l, f, hj, rfl, hw, hm', hb⟩ := hrel
    clear hw9 hm9 hb9
    have hm2 := hm'
    obtain ⟨A2, n2, c2, hbm0, hrm, _, _, hn2, _⟩ := hm2
    have hln := hrm.len1
    rw [len_U8] at hln
    have HLn : Hid (l.length = n2) := hln
    clear hrm hln
    by_cases hlt : j < m
    · obtain ⟨ad, o, b, q, rfl, _ho, hog, hq, k1, k2, k3⟩ := (ho.below hb).at_ (i := j) (by rw [HM.out]; exact hlt)
      clear _ho
      have hb0 := hb.alloc hb.size (.cells #[.int .u8 (o.kind : Int), .int .i64 o.most, .int .u64 (o.p : Int)] 45)
      have hw0 := hw.below ((Below.refl _ _).alloc (Nat.le_refl _) (.cells #[.int .u8 (o.kind : Int), .int .i64 o.most, .int .u64 (o.p : Int)] 45)) (Nat.le_refl _)
      have hm0 := hm'.below ((Below.refl _ _).alloc (Nat.le_refl _) (.cells #[.int .u8 (o.kind : Int), .int .i64 o.most, .int .u64 (o.p : Int)] 45)) (Nat.le_refl _)
      have hbm := hbm0.alloc (.cells #[.int .u8 (o.kind : Int), .int .i64 o.most, .int .u64 (o.p : Int)] 45)
      have hx0 := Blk.drew (Blk.new wr 45 #[.int .u8 (o.kind : Int), .int .i64 o.most, .int .u64 (o.p : Int)])
      have hg1x : wr.heap.size ≠ g1 := by have := hw.lt; omega
      have hg2x : wr.heap.size ≠ g2 := by have := hm'.lt; omega
      clear hb hw hm' hbm0
      cases f with
      | true =>
        have HD : Hid ((!true && l.isEmpty) = false) := rfl
        go_wp2_with fail
        refine wpR_begin (Only2 g1 g2) (by kernel_rfl) ?_
        refine wpR_take 0 (v := ?_) (only2_moves g1 g2) (by decide) (by kernel_rfl) (by kernel_rfl) (by kernel_rfl) (fun _ _ _ h => h) (wantedT (by rfl) ?_) ?_ ; rotate_left ; · ( intro w' hR ; simp only [List.getElem_cons_succ, List.getElem_cons_zero] ; go_simp ; try with_reducible rfl )
        simp only [Act.put, List.getElem_cons_succ, List.getElem_cons_zero, List.setIfInBounds_toArray, List.set_cons_zero, List.set_cons_succ]
        refine wpR_take 2 (v := ?_) (only2_moves g1 g2) (by decide) (by kernel_rfl) (by kernel_rfl) (by kernel_rfl) (fun _ _ _ h => h) (wantedT (by rfl) ?_) ?_ ; rotate_left ; · ( intro w' hR ; simp only [List.getElem_cons_succ, List.getElem_cons_zero] ; go_simp ; try with_reducible rfl )
        simp only [Act.put, List.getElem_cons_succ, List.getElem_cons_zero, List.setIfInBounds_toArray, List.set_cons_zero, List.set_cons_succ]
        refine wpR_take 3 (v := ?_) (only2_moves g1 g2) (by decide) (by kernel_rfl) (by kernel_rfl) (by kernel_rfl) (fun _ _ _ h => h) (wantedT (by rfl) ?_) ?_ ; rotate_left ; · ( intro w' hR ; simp only [List.getElem_cons_succ, List.getElem_cons_zero] ; go_simp ; try with_reducible rfl )
        simp only [Act.put, List.getElem_cons_succ, List.getElem_cons_zero, List.setIfInBounds_toArray, List.set_cons_zero, List.set_cons_succ]
        refine wpR_take 4 (v := ?_) (only2_moves g1 g2) (by decide) (by kernel_rfl) (by kernel_rfl) (by kernel_rfl) (fun _ _ _ h => h) (wantedT (by rfl) ?_) ?_ ; rotate_left ; · ( intro w' hR ; simp only [List.getElem_cons_succ, List.getElem_cons_zero] ; go_simp ; try with_reducible rfl )
        simp only [Act.put, List.getElem_cons_succ, List.getElem_cons_zero, List.setIfInBounds_toArray, List.set_cons_zero, List.set_cons_succ]
        refine wpR_two 1 5 (only2_moves g1 g2) (by kernel_rfl) ?_ ?_
        · refine wpS_call (by decide) (by rfl) ((failed_any g1 bd l true _ hw0.drew).mono ?_) (fun _ => by simp only [List.getElem_cons_succ, List.getElem_cons_zero] ; go_simp)
          rintro e w2 ⟨rfl, rfl⟩
          refine ⟨_, rfl, (only2_moves g1 g2).refl _, ?_⟩
          simp only [Act.put, List.getElem_cons_succ, List.getElem_cons_zero, List.setIfInBounds_toArray, List.set_cons_zero, List.set_cons_succ]
          refine wpR_one 5 (only2_moves g1 g2) (by kernel_rfl) ?_
          refine wpS_read (v := .bool true) (only2_moves g1 g2) (by decide) (by rfl) ?_ ?_ ; · ( simp only [List.getElem_cons_succ, List.getElem_cons_zero] ; have q := hbm.drew.cell 1 ; simp at q ; go_simp )
          simp only [Act.put, List.getElem_cons_succ, List.getElem_cons_zero, List.setIfInBounds_toArray, List.set_cons_zero, List.set_cons_succ]
          refine wpR_take 6 (v := ?_) (only2_moves g1 g2) (by decide) (by kernel_rfl) (by kernel_rfl) (by kernel_rfl) (fun _ _ _ h => h) (wantedT (by rfl) ?_) ?_ ; rotate_left ; · ( intro w' hR ; simp only [List.getElem_cons_succ, List.getElem_cons_zero] ; go_simp ; try with_reducible rfl )
          simp only [Act.put, List.getElem_cons_succ, List.getElem_cons_zero, List.setIfInBounds_toArray, List.set_cons_zero, List.set_cons_succ]
          refine wpR_take 7 (v := ?_) (only2_moves g1 g2) (by decide) (by kernel_rfl) (by kernel_rfl) (by kernel_rfl) (fun _ _ _ h => h) (wantedT (by rfl) ?_) ?_ ; rotate_left ; · ( intro w' hR ; simp only [List.getElem_cons_succ, List.getElem_cons_zero] ; go_simp ; try with_reducible rfl )
          simp only [Act.put, List.getElem_cons_succ, List.getElem_cons_zero, List.setIfInBounds_toArray, List.set_cons_zero, List.set_cons_succ]
          refine wpR_take 8 (v := ?_) (only2_moves g1 g2) (by decide) (by kernel_rfl) (by kernel_rfl) (by kernel_rfl) (fun _ _ _ h => h) (wantedT (by rfl) ?_) ?_ ; rotate_left ; · ( intro w' hR ; simp only [List.getElem_cons_succ, List.getElem_cons_zero] ; go_simp ; try with_reducible rfl )
          simp only [Act.put, List.getElem_cons_succ, List.getElem_cons_zero, List.setIfInBounds_toArray, List.set_cons_zero, List.set_cons_succ]
          refine wpR_take 10 (v := ?_) (only2_moves g1 g2) (by decide) (by kernel_rfl) (by kernel_rfl) (by kernel_rfl) (fun _ _ _ h => h) (wantedT (by rfl) ?_) ?_ ; rotate_left ; · ( intro w' hR ; simp only [List.getElem_cons_succ, List.getElem_cons_zero] ; go_simp ; try with_reducible rfl )
          simp only [Act.put, List.getElem_cons_succ, List.getElem_cons_zero, List.setIfInBounds_toArray, List.set_cons_zero, List.set_cons_succ]
          refine wpR_take 11 (v := ?_) (only2_moves g1 g2) (by decide) (by kernel_rfl) (by kernel_rfl) (by kernel_rfl) (fun _ _ _ h => h) (wantedT (by rfl) ?_) ?_ ; rotate_left ; · ( intro w' hR ; simp only [List.getElem_cons_succ, List.getElem_cons_zero] ; go_simp ; try with_reducible rfl )
          simp only [Act.put, List.getElem_cons_succ, List.getElem_cons_zero, List.setIfInBounds_toArray, List.set_cons_zero, List.set_cons_succ]
          refine wpR_take 12 (v := ?_) (only2_moves g1 g2) (by decide) (by kernel_rfl) (by kernel_rfl) (by kernel_rfl) (fun _ _ _ h => h) (wantedT (by rfl) ?_) ?_ ; rotate_left ; · ( intro w' hR ; simp only [List.getElem_cons_succ, List.getElem_cons_zero] ; go_simp ; try with_reducible rfl )
          simp only [Act.put, List.getElem_cons_succ, List.getElem_cons_zero, List.setIfInBounds_toArray, List.set_cons_zero, List.set_cons_succ]
          refine wpR_two 9 13 (only2_moves g1 g2) (by kernel_rfl) ?_ ?_
          · refine wpS_call (by decide) (by rfl) ((done_any g1 bd l true _ hw0.drew).mono ?_) (fun _ => by simp only [List.getElem_cons_succ, List.getElem_cons_zero] ; go_simp)
            rintro e w3 ⟨rfl, kk, rfl⟩
            rw [HD.out]
            refine ⟨_, rfl, only2_l (grown_drewN' (grown_refl' _ _) _), ?_⟩
            simp only [Act.put, List.getElem_cons_succ, List.getElem_cons_zero, List.setIfInBounds_toArray, List.set_cons_zero, List.set_cons_succ]
            refine wpR_one 13 (only2_moves g1 g2) (by kernel_rfl) ?_
            refine wpS_read (v := .bool true) (only2_moves g1 g2) (by decide) (by rfl) ?_ ?_ ; · ( simp only [List.getElem_cons_succ, List.getElem_cons_zero] ; have q := hbm.drew.cell 1 ; simp at q ; go_simp )
            simp only [Act.put, List.getElem_cons_succ, List.getElem_cons_zero, List.setIfInBounds_toArray, List.set_cons_zero, List.set_cons_succ]
            refine wpR_take 14 (v := ?_) (only2_moves g1 g2) (by decide) (by kernel_rfl) (by kernel_rfl) (by kernel_rfl) (fun _ _ _ h => h) (wantedT (by rfl) ?_) ?_ ; rotate_left ; · ( intro w' hR ; simp only [List.getElem_cons_succ, List.getElem_cons_zero] ; go_simp ; try with_reducible rfl )
            simp only [Act.put, List.getElem_cons_succ, List.getElem_cons_zero, List.setIfInBounds_toArray, List.set_cons_zero, List.set_cons_succ]
            refine wpR_take 15 (v := ?_) (only2_moves g1 g2) (by decide) (by kernel_rfl) (by kernel_rfl) (by kernel_rfl) (fun _ _ _ h => h) (wantedT (by rfl) ?_) ?_ ; rotate_left ; · ( intro w' hR ; simp only [List.getElem_cons_succ, List.getElem_cons_zero] ; go_simp ; try with_reducible rfl )
            simp only [Act.put, List.getElem_cons_succ, List.getElem_cons_zero, List.setIfInBounds_toArray, List.set_cons_zero, List.set_cons_succ]
            refine wpR_take 16 (v := undef) (only2_moves g1 g2) (by decide) (by kernel_rfl) (by kernel_rfl) (by kernel_rfl) (fun _ _ _ h => h) (wantedF (by rfl)) ?_
            simp only [Act.put, List.getElem_cons_succ, List.getElem_cons_zero, List.setIfInBounds_toArray, List.set_cons_zero, List.set_cons_succ]
            refine wpR_take 17 (v := undef) (only2_moves g1 g2) (by decide) (by kernel_rfl) (by kernel_rfl) (by kernel_rfl) (fun _ _ _ h => h) (wantedF (by rfl)) ?_
            simp only [Act.put, List.getElem_cons_succ, List.getElem_cons_zero, List.setIfInBounds_toArray, List.set_cons_zero, List.set_cons_succ]
            refine wpR_take 18 (v := undef) (only2_moves g1 g2) (by decide) (by kernel_rfl) (by kernel_rfl) (by kernel_rfl) (fun _ _ _ h => h) (wantedF (by rfl)) ?_
            simp only [Act.put, List.getElem_cons_succ, List.getElem_cons_zero, List.setIfInBounds_toArray, List.set_cons_zero, List.set_cons_succ]
            refine wpR_take 19 (v := undef) (only2_moves g1 g2) (by decide) (by kernel_rfl) (by kernel_rfl) (by kernel_rfl) (fun _ _ _ h => h) (wantedF (by rfl)) ?_
            simp only [Act.put, List.getElem_cons_succ, List.getElem_cons_zero, List.setIfInBounds_toArray, List.set_cons_zero, List.set_cons_succ]
            refine wpR_take 20 (v := undef) (only2_moves g1 g2) (by decide) (by kernel_rfl) (by kernel_rfl) (by kernel_rfl) (fun _ _ _ h => h) (wantedF (by rfl)) ?_
            simp only [Act.put, List.getElem_cons_succ, List.getElem_cons_zero, List.setIfInBounds_toArray, List.set_cons_zero, List.set_cons_succ]
            refine wpR_take 21 (v := undef) (only2_moves g1 g2) (by decide) (by kernel_rfl) (by kernel_rfl) (by kernel_rfl) (fun _ _ _ h => h) (wantedF (by rfl)) ?_
            simp only [Act.put, List.getElem_cons_succ, List.getElem_cons_zero, List.setIfInBounds_toArray, List.set_cons_zero, List.set_cons_succ]
            refine wpR_take 22 (v := ?_) (only2_moves g1 g2) (by decide) (by kernel_rfl) (by kernel_rfl) (by kernel_rfl) (fun _ _ _ h => h) (wantedT (by rfl) ?_) ?_ ; rotate_left ; · ( intro w' hR ; simp only [List.getElem_cons_succ, List.getElem_cons_zero] ; go_simp ; try with_reducible rfl )
            simp only [Act.put, List.getElem_cons_succ, List.getElem_cons_zero, List.setIfInBounds_toArray, List.set_cons_zero, List.set_cons_succ]
            refine wpR_take 23 (v := ?_) (only2_moves g1 g2) (by decide) (by kernel_rfl) (by kernel_rfl) (by kernel_rfl) (fun _ _ _ h => h) (wantedT (by rfl) ?_) ?_ ; rotate_left ; · ( intro w' hR ; simp only [List.getElem_cons_succ, List.getElem_cons_zero] ; go_simp ; try with_reducible rfl )
            simp only [Act.put, List.getElem_cons_succ, List.getElem_cons_zero, List.setIfInBounds_toArray, List.set_cons_zero, List.set_cons_succ]
            refine wpR_take 24 (v := ?_) (only2_moves g1 g2) (by decide) (by kernel_rfl) (by kernel_rfl) (by kernel_rfl) (fun _ _ _ h => h) (wantedT (by rfl) ?_) ?_ ; rotate_left ; · ( intro w' hR ; simp only [List.getElem_cons_succ, List.getElem_cons_zero] ; go_simp ; try with_reducible rfl )
            simp only [Act.put, List.getElem_cons_succ, List.getElem_cons_zero, List.setIfInBounds_toArray, List.set_cons_zero, List.set_cons_succ]
            refine wpR_take 25 (v := ?_) (only2_moves g1 g2) (by decide) (by kernel_rfl) (by kernel_rfl) (by kernel_rfl) (fun _ _ _ h => h) (wantedT (by rfl) ?_) ?_ ; rotate_left ; · ( intro w' hR ; simp only [List.getElem_cons_succ, List.getElem_cons_zero] ; go_simp ; try with_reducible rfl )
            simp only [Act.put, List.getElem_cons_succ, List.getElem_cons_zero, List.setIfInBounds_toArray, List.set_cons_zero, List.set_cons_succ]
            refine wpR_take 26 (v := ?_) (only2_moves g1 g2) (by decide) (by kernel_rfl) (by kernel_rfl) (by kernel_rfl) (fun _ _ _ h => h) (wantedT (by rfl) ?_) ?_ ; rotate_left ; · ( intro w' hR ; simp only [List.getElem_cons_succ, List.getElem_cons_zero] ; go_simp ; try with_reducible rfl )
            simp only [Act.put, List.getElem_cons_succ, List.getElem_cons_zero, List.setIfInBounds_toArray, List.set_cons_zero, List.set_cons_succ]
            refine wpR_take 27 (v := ?_) (only2_moves g1 g2) (by decide) (by kernel_rfl) (by kernel_rfl) (by kernel_rfl) (fun _ _ _ h => h) (wantedT (by rfl) ?_) ?_ ; rotate_left ; · ( intro w' hR ; simp only [List.getElem_cons_succ, List.getElem_cons_zero] ; go_simp ; try with_reducible rfl )
            simp only [Act.put, List.getElem_cons_succ, List.getElem_cons_zero, List.setIfInBounds_toArray, List.set_cons_zero, List.set_cons_succ]
            refine wpR_take 28 (v := .agg #[.int .u8 (o.kind : Int), .int .i64 o.most, .int .u64 (o.p : Int)]) (only2_moves g1 g2) (by decide) (by kernel_rfl) (by kernel_rfl) (by kernel_rfl) (fun _ _ _ h => h) (wantedT (by rfl) ?_) ?_ ; · ( intro w' hR ; simp only [List.getElem_cons_succ, List.getElem_cons_zero] ; have q0 := ((hx0.drewN kk).only2 hR hg1x hg2x).cell 0 ; have q1 := ((hx0.drewN kk).only2 hR hg1x hg2x).cell 1 ; have q2 := ((hx0.drewN kk).only2 hR hg1x hg2x).cell 2 ; simp at q0 q1 q2 ; go_simp )
            simp only [Act.put, List.getElem_cons_succ, List.getElem_cons_zero, List.setIfInBounds_toArray, List.set_cons_zero, List.set_cons_succ]
            refine wpR_one 29 (only2_moves g1 g2) (by kernel_rfl) ?_
            refine wpS_call (by decide) (by rfl) ((do_any g1 g2 _ bd o l true _ (hw0.drew.drewN _) (hm0.drew'.drewN _) h12 hbd hbd2).mono ?_) (fun _ => by simp only [List.getElem_cons_succ, List.getElem_cons_zero] ; go_simp)
            rintro e w4 ⟨rfl, l4, f4, hw4, hm4, hq4⟩
            refine ⟨_, rfl, hq4, ?_⟩
            simp only [Act.put, List.getElem_cons_succ, List.getElem_cons_zero, List.setIfInBounds_toArray, List.set_cons_zero, List.set_cons_succ]
            refine wpR_take 30 (v := ?_) (only2_moves g1 g2) (by decide) (by kernel_rfl) (by kernel_rfl) (by kernel_rfl) (fun _ _ _ h => h) (wantedT (by rfl) ?_) ?_ ; rotate_left ; · ( intro w' hR ; simp only [List.getElem_cons_succ, List.getElem_cons_zero] ; go_simp ; try with_reducible rfl )
            simp only [Act.put, List.getElem_cons_succ, List.getElem_cons_zero, List.setIfInBounds_toArray, List.set_cons_zero, List.set_cons_succ]
            refine wpR_take 31 (v := ?_) (only2_moves g1 g2) (by decide) (by kernel_rfl) (by kernel_rfl) (by kernel_rfl) (fun _ _ _ h => h) (wantedT (by rfl) ?_) ?_ ; rotate_left ; · ( intro w' hR ; simp only [List.getElem_cons_succ, List.getElem_cons_zero] ; go_simp ; try with_reducible rfl )
            simp only [Act.put, List.getElem_cons_succ, List.getElem_cons_zero, List.setIfInBounds_toArray, List.set_cons_zero, List.set_cons_succ]
            refine wpR_done (by kernel_rfl) ?_
            have hbF := below_only2 (below_drewN' hb0.drew kk) hq4 hb0.size hB1 hB2
            clear hw0 hm0 hbm hb0 hx0 hq4
            go_wp2
            go_roundw
            case rel => exact ⟨j + 1, l4, f4, by omega, by go_num, hw4, hm4, hbF⟩
            case measure => simp [intOf]; omega
          · refine wpS_read (v := .bool true) (only2_moves g1 g2) (by decide) (by rfl) ?_ ?_ ; · ( simp only [List.getElem_cons_succ, List.getElem_cons_zero] ; have q := hbm.drew.cell 1 ; simp at q ; go_simp )
            simp only [Act.put, List.getElem_cons_succ, List.getElem_cons_zero, List.setIfInBounds_toArray, List.set_cons_zero, List.set_cons_succ]
            refine wpR_take 14 (v := ?_) (only2_moves g1 g2) (by decide) (by kernel_rfl) (by kernel_rfl) (by kernel_rfl) (fun _ _ _ h => h) (wantedT (by rfl) ?_) ?_ ; rotate_left ; · ( intro w' hR ; simp only [List.getElem_cons_succ, List.getElem_cons_zero] ; go_simp ; try with_reducible rfl )
            simp only [Act.put, List.getElem_cons_succ, List.getElem_cons_zero, List.setIfInBounds_toArray, List.set_cons_zero, List.set_cons_succ]
            refine wpR_one 9 (only2_moves g1 g2) (by kernel_rfl) ?_
            refine wpS_call (by decide) (by rfl) ((done_any g1 bd l true _ hw0.drew).mono ?_) (fun _ => by simp only [List.getElem_cons_succ, List.getElem_cons_zero] ; go_simp)
            rintro e w3 ⟨rfl, kk, rfl⟩
            rw [HD.out]
            refine ⟨_, rfl, only2_l (grown_drewN' (grown_refl' _ _) _), ?_⟩
            simp only [Act.put, List.getElem_cons_succ, List.getElem_cons_zero, List.setIfInBounds_toArray, List.set_cons_zero, List.set_cons_succ]
            refine wpR_take 15 (v := ?_) (only2_moves g1 g2) (by decide) (by kernel_rfl) (by kernel_rfl) (by kernel_rfl) (fun _ _ _ h => h) (wantedT (by rfl) ?_) ?_ ; rotate_left ; · ( intro w' hR ; simp only [List.getElem_cons_succ, List.getElem_cons_zero] ; go_simp ; try with_reducible rfl )
            simp only [Act.put, List.getElem_cons_succ, List.getElem_cons_zero, List.setIfInBounds_toArray, List.set_cons_zero, List.set_cons_succ]
            refine wpR_take 16 (v := undef) (only2_moves g1 g2) (by decide) (by kernel_rfl) (by kernel_rfl) (by kernel_rfl) (fun _ _ _ h => h) (wantedF (by rfl)) ?_
            simp only [Act.put, List.getElem_cons_succ, List.getElem_cons_zero, List.setIfInBounds_toArray, List.set_cons_zero, List.set_cons_succ]
            refine wpR_take 17 (v := undef) (only2_moves g1 g2) (by decide) (by kernel_rfl) (by kernel_rfl) (by kernel_rfl) (fun _ _ _ h => h) (wantedF (by rfl)) ?_
            simp only [Act.put, List.getElem_cons_succ, List.getElem_cons_zero, List.setIfInBounds_toArray, List.set_cons_zero, List.set_cons_succ]
            refine wpR_take 18 (v := undef) (only2_moves g1 g2) (by decide) (by kernel_rfl) (by kernel_rfl) (by kernel_rfl) (fun _ _ _ h => h) (wantedF (by rfl)) ?_
            simp only [Act.put, List.getElem_cons_succ, List.getElem_cons_zero, List.setIfInBounds_toArray, List.set_cons_zero, List.set_cons_succ]
            refine wpR_take 19 (v := undef) (only2_moves g1 g2) (by decide) (by kernel_rfl) (by kernel_rfl) (by kernel_rfl) (fun _ _ _ h => h) (wantedF (by rfl)) ?_
            simp only [Act.put, List.getElem_cons_succ, List.getElem_cons_zero, List.setIfInBounds_toArray, List.set_cons_zero, List.set_cons_succ]
            refine wpR_take 20 (v := undef) (only2_moves g1 g2) (by decide) (by kernel_rfl) (by kernel_rfl) (by kernel_rfl) (fun _ _ _ h => h) (wantedF (by rfl)) ?_
            simp only [Act.put, List.getElem_cons_succ, List.getElem_cons_zero, List.setIfInBounds_toArray, List.set_cons_zero, List.set_cons_succ]
            refine wpR_take 21 (v := undef) (only2_moves g1 g2) (by decide) (by kernel_rfl) (by kernel_rfl) (by kernel_rfl) (fun _ _ _ h => h) (wantedF (by rfl)) ?_
            simp only [Act.put, List.getElem_cons_succ, List.getElem_cons_zero, List.setIfInBounds_toArray, List.set_cons_zero, List.set_cons_succ]
            refine wpR_take 22 (v := ?_) (only2_moves g1 g2) (by decide) (by kernel_rfl) (by kernel_rfl) (by kernel_rfl) (fun _ _ _ h => h) (wantedT (by rfl) ?_) ?_ ; rotate_left ; · ( intro w' hR ; simp only [List.getElem_cons_succ, List.getElem_cons_zero] ; go_simp ; try with_reducible rfl )
            simp only [Act.put, List.getElem_cons_succ, List.getElem_cons_zero, List.setIfInBounds_toArray, List.set_cons_zero, List.set_cons_succ]
            refine wpR_take 23 (v := ?_) (only2_moves g1 g2) (by decide) (by kernel_rfl) (by kernel_rfl) (by kernel_rfl) (fun _ _ _ h => h) (wantedT (by rfl) ?_) ?_ ; rotate_left ; · ( intro w' hR ; simp only [List.getElem_cons_succ, List.getElem_cons_zero] ; go_simp ; try with_reducible rfl )
            simp only [Act.put, List.getElem_cons_succ, List.getElem_cons_zero, List.setIfInBounds_toArray, List.set_cons_zero, List.set_cons_succ]
            refine wpR_take 24 (v := ?_) (only2_moves g1 g2) (by decide) (by kernel_rfl) (by kernel_rfl) (by kernel_rfl) (fun _ _ _ h => h) (wantedT (by rfl) ?_) ?_ ; rotate_left ; · ( intro w' hR ; simp only [List.getElem_cons_succ, List.getElem_cons_zero] ; go_simp ; try with_reducible rfl )
            simp only [Act.put, List.getElem_cons_succ, List.getElem_cons_zero, List.setIfInBounds_toArray, List.set_cons_zero, List.set_cons_succ]
            refine wpR_take 25 (v := ?_) (only2_moves g1 g2) (by decide) (by kernel_rfl) (by kernel_rfl) (by kernel_rfl) (fun _ _ _ h => h) (wantedT (by rfl) ?_) ?_ ; rotate_left ; · ( intro w' hR ; simp only [List.getElem_cons_succ, List.getElem_cons_zero] ; go_simp ; try with_reducible rfl )
            simp only [Act.put, List.getElem_cons_succ, List.getElem_cons_zero, List.setIfInBounds_toArray, List.set_cons_zero, List.set_cons_succ]
            refine wpR_take 26 (v := ?_) (only2_moves g1 g2) (by decide) (by kernel_rfl) (by kernel_rfl) (by kernel_rfl) (fun _ _ _ h => h) (wantedT (by rfl) ?_) ?_ ; rotate_left ; · ( intro w' hR ; simp only [List.getElem_cons_succ, List.getElem_cons_zero] ; go_simp ; try with_reducible rfl )
            simp only [Act.put, List.getElem_cons_succ, List.getElem_cons_zero, List.setIfInBounds_toArray, List.set_cons_zero, List.set_cons_succ]
            refine wpR_take 27 (v := ?_) (only2_moves g1 g2) (by decide) (by kernel_rfl) (by kernel_rfl) (by kernel_rfl) (fun _ _ _ h => h) (wantedT (by rfl) ?_) ?_ ; rotate_left ; · ( intro w' hR ; simp only [List.getElem_cons_succ, List.getElem_cons_zero] ; go_simp ; try with_reducible rfl )
            simp only [Act.put, List.getElem_cons_succ, List.getElem_cons_zero, List.setIfInBounds_toArray, List.set_cons_zero, List.set_cons_succ]
            refine wpR_take 28 (v := .agg #[.int .u8 (o.kind : Int), .int .i64 o.most, .int .u64 (o.p : Int)]) (only2_moves g1 g2) (by decide) (by kernel_rfl) (by kernel_rfl) (by kernel_rfl) (fun _ _ _ h => h) (wantedT (by rfl) ?_) ?_ ; · ( intro w' hR ; simp only [List.getElem_cons_succ, List.getElem_cons_zero] ; have q0 := ((hx0.drewN kk).only2 hR hg1x hg2x).cell 0 ; have q1 := ((hx0.drewN kk).only2 hR hg1x hg2x).cell 1 ; have q2 := ((hx0.drewN kk).only2 hR hg1x hg2x).cell 2 ; simp at q0 q1 q2 ; go_simp )
            simp only [Act.put, List.getElem_cons_succ, List.getElem_cons_zero, List.setIfInBounds_toArray, List.set_cons_zero, List.set_cons_succ]
            refine wpR_one 29 (only2_moves g1 g2) (by kernel_rfl) ?_
            refine wpS_call (by decide) (by rfl) ((do_any g1 g2 _ bd o l true _ (hw0.drew.drewN _) (hm0.drew'.drewN _) h12 hbd hbd2).mono ?_) (fun _ => by simp only [List.getElem_cons_succ, List.getElem_cons_zero] ; go_simp)
            rintro e w4 ⟨rfl, l4, f4, hw4, hm4, hq4⟩
            refine ⟨_, rfl, hq4, ?_⟩
            simp only [Act.put, List.getElem_cons_succ, List.getElem_cons_zero, List.setIfInBounds_toArray, List.set_cons_zero, List.set_cons_succ]
            refine wpR_take 30 (v := ?_) (only2_moves g1 g2) (by decide) (by kernel_rfl) (by kernel_rfl) (by kernel_rfl) (fun _ _ _ h => h) (wantedT (by rfl) ?_) ?_ ; rotate_left ; · ( intro w' hR ; simp only [List.getElem_cons_succ, List.getElem_cons_zero] ; go_simp ; try with_reducible rfl )
            simp only [Act.put, List.getElem_cons_succ, List.getElem_cons_zero, List.setIfInBounds_toArray, List.set_cons_zero, List.set_cons_succ]
            refine wpR_take 31 (v := ?_) (only2_moves g1 g2) (by decide) (by kernel_rfl) (by kernel_rfl) (by kernel_rfl) (fun _ _ _ h => h) (wantedT (by rfl) ?_) ?_ ; rotate_left ; · ( intro w' hR ; simp only [List.getElem_cons_succ, List.getElem_cons_zero] ; go_simp ; try with_reducible rfl )
            simp only [Act.put, List.getElem_cons_succ, List.getElem_cons_zero, List.setIfInBounds_toArray, List.set_cons_zero, List.set_cons_succ]
            refine wpR_done (by kernel_rfl) ?_
            have hbF := below_only2 (below_drewN' hb0.drew kk) hq4 hb0.size hB1 hB2
            clear hw0 hm0 hbm hb0 hx0 hq4
            go_wp2
            go_roundw
            case rel => exact ⟨j + 1, l4, f4, by omega, by go_num, hw4, hm4, hbF⟩
            case measure => simp [intOf]; omega
        · refine wpS_read (v := .bool true) (only2_moves g1 g2) (by decide) (by rfl) ?_ ?_ ; · ( simp only [List.getElem_cons_succ, List.getElem_cons_zero] ; have q := hbm.drew.cell 1 ; simp at q ; go_simp )
          simp only [Act.put, List.getElem_cons_succ, List.getElem_cons_zero, List.setIfInBounds_toArray, List.set_cons_zero, List.set_cons_succ]
          refine wpR_one 1 (only2_moves g1 g2) (by kernel_rfl) ?_
          refine wpS_call (by decide) (by rfl) ((failed_any g1 bd l true _ hw0.drew).mono ?_) (fun _ => by simp only [List.getElem_cons_succ, List.getElem_cons_zero] ; go_simp)
          rintro e w2 ⟨rfl, rfl⟩
          refine ⟨_, rfl, (only2_moves g1 g2).refl _, ?_⟩
          simp only [Act.put, List.getElem_cons_succ, List.getElem_cons_zero, List.setIfInBounds_toArray, List.set_cons_zero, List.set_cons_succ]
          refine wpR_take 6 (v := ?_) (only2_moves g1 g2) (by decide) (by kernel_rfl) (by kernel_rfl) (by kernel_rfl) (fun _ _ _ h => h) (wantedT (by rfl) ?_) ?_ ; rotate_left ; · ( intro w' hR ; simp only [List.getElem_cons_succ, List.getElem_cons_zero] ; go_simp ; try with_reducible rfl )
          simp only [Act.put, List.getElem_cons_succ, List.getElem_cons_zero, List.setIfInBounds_toArray, List.set_cons_zero, List.set_cons_succ]
          refine wpR_take 7 (v := ?_) (only2_moves g1 g2) (by decide) (by kernel_rfl) (by kernel_rfl) (by kernel_rfl) (fun _ _ _ h => h) (wantedT (by rfl) ?_) ?_ ; rotate_left ; · ( intro w' hR ; simp only [List.getElem_cons_succ, List.getElem_cons_zero] ; go_simp ; try with_reducible rfl )
          simp only [Act.put, List.getElem_cons_succ, List.getElem_cons_zero, List.setIfInBounds_toArray, List.set_cons_zero, List.set_cons_succ]
          refine wpR_take 8 (v := ?_) (only2_moves g1 g2) (by decide) (by kernel_rfl) (by kernel_rfl) (by kernel_rfl) (fun _ _ _ h => h) (wantedT (by rfl) ?_) ?_ ; rotate_left ; · ( intro w' hR ; simp only [List.getElem_cons_succ, List.getElem_cons_zero] ; go_simp ; try with_reducible rfl )
          simp only [Act.put, List.getElem_cons_succ, List.getElem_cons_zero, List.setIfInBounds_toArray, List.set_cons_zero, List.set_cons_succ]
          refine wpR_take 10 (v := ?_) (only2_moves g1 g2) (by decide) (by kernel_rfl) (by kernel_rfl) (by kernel_rfl) (fun _ _ _ h => h) (wantedT (by rfl) ?_) ?_ ; rotate_left ; · ( intro w' hR ; simp only [List.getElem_cons_succ, List.getElem_cons_zero] ; go_simp ; try with_reducible rfl )
          simp only [Act.put, List.getElem_cons_succ, List.getElem_cons_zero, List.setIfInBounds_toArray, List.set_cons_zero, List.set_cons_succ]
          refine wpR_take 11 (v := ?_) (only2_moves g1 g2) (by decide) (by kernel_rfl) (by kernel_rfl) (by kernel_rfl) (fun _ _ _ h => h) (wantedT (by rfl) ?_) ?_ ; rotate_left ; · ( intro w' hR ; simp only [List.getElem_cons_succ, List.getElem_cons_zero] ; go_simp ; try with_reducible rfl )
          simp only [Act.put, List.getElem_cons_succ, List.getElem_cons_zero, List.setIfInBounds_toArray, List.set_cons_zero, List.set_cons_succ]
          refine wpR_take 12 (v := ?_) (only2_moves g1 g2) (by decide) (by kernel_rfl) (by kernel_rfl) (by kernel_rfl) (fun _ _ _ h => h) (wantedT (by rfl) ?_) ?_ ; rotate_left ; · ( intro w' hR ; simp only [List.getElem_cons_succ, List.getElem_cons_zero] ; go_simp ; try with_reducible rfl )
          simp only [Act.put, List.getElem_cons_succ, List.getElem_cons_zero, List.setIfInBounds_toArray, List.set_cons_zero, List.set_cons_succ]
          refine wpR_two 9 13 (only2_moves g1 g2) (by kernel_rfl) ?_ ?_
          · refine wpS_call (by decide) (by rfl) ((done_any g1 bd l true _ hw0.drew).mono ?_) (fun _ => by simp only [List.getElem_cons_succ, List.getElem_cons_zero] ; go_simp)
            rintro e w3 ⟨rfl, kk, rfl⟩
            rw [HD.out]
            refine ⟨_, rfl, only2_l (grown_drewN' (grown_refl' _ _) _), ?_⟩
            simp only [Act.put, List.getElem_cons_succ, List.getElem_cons_zero, List.setIfInBounds_toArray, List.set_cons_zero, List.set_cons_succ]
            refine wpR_one 13 (only2_moves g1 g2) (by kernel_rfl) ?_
            refine wpS_read (v := .bool true) (only2_moves g1 g2) (by decide) (by rfl) ?_ ?_ ; · ( simp only [List.getElem_cons_succ, List.getElem_cons_zero] ; have q := hbm.drew.cell 1 ; simp at q ; go_simp )
            simp only [Act.put, List.getElem_cons_succ, List.getElem_cons_zero, List.setIfInBounds_toArray, List.set_cons_zero, List.set_cons_succ]
            refine wpR_take 14 (v := ?_) (only2_moves g1 g2) (by decide) (by kernel_rfl) (by kernel_rfl) (by kernel_rfl) (fun _ _ _ h => h) (wantedT (by rfl) ?_) ?_ ; rotate_left ; · ( intro w' hR ; simp only [List.getElem_cons_succ, List.getElem_cons_zero] ; go_simp ; try with_reducible rfl )
            simp only [Act.put, List.getElem_cons_succ, List.getElem_cons_zero, List.setIfInBounds_toArray, List.set_cons_zero, List.set_cons_succ]
            refine wpR_take 15 (v := ?_) (only2_moves g1 g2) (by decide) (by kernel_rfl) (by kernel_rfl) (by kernel_rfl) (fun _ _ _ h => h) (wantedT (by rfl) ?_) ?_ ; rotate_left ; · ( intro w' hR ; simp only [List.getElem_cons_succ, List.getElem_cons_zero] ; go_simp ; try with_reducible rfl )
            simp only [Act.put, List.getElem_cons_succ, List.getElem_cons_zero, List.setIfInBounds_toArray, List.set_cons_zero, List.set_cons_succ]
            refine wpR_take 16 (v := undef) (only2_moves g1 g2) (by decide) (by kernel_rfl) (by kernel_rfl) (by kernel_rfl) (fun _ _ _ h => h) (wantedF (by rfl)) ?_
            simp only [Act.put, List.getElem_cons_succ, List.getElem_cons_zero, List.setIfInBounds_toArray, List.set_cons_zero, List.set_cons_succ]
            refine wpR_take 17 (v := undef) (only2_moves g1 g2) (by decide) (by kernel_rfl) (by kernel_rfl) (by kernel_rfl) (fun _ _ _ h => h) (wantedF (by rfl)) ?_
            simp only [Act.put, List.getElem_cons_succ, List.getElem_cons_zero, List.setIfInBounds_toArray, List.set_cons_zero, List.set_cons_succ]
            refine wpR_take 18 (v := undef) (only2_moves g1 g2) (by decide) (by kernel_rfl) (by kernel_rfl) (by kernel_rfl) (fun _ _ _ h => h) (wantedF (by rfl)) ?_
            simp only [Act.put, List.getElem_cons_succ, List.getElem_cons_zero, List.setIfInBounds_toArray, List.set_cons_zero, List.set_cons_succ]
            refine wpR_take 19 (v := undef) (only2_moves g1 g2) (by decide) (by kernel_rfl) (by kernel_rfl) (by kernel_rfl) (fun _ _ _ h => h) (wantedF (by rfl)) ?_
            simp only [Act.put, List.getElem_cons_succ, List.getElem_cons_zero, List.setIfInBounds_toArray, List.set_cons_zero, List.set_cons_succ]
            refine wpR_take 20 (v := undef) (only2_moves g1 g2) (by decide) (by kernel_rfl) (by kernel_rfl) (by kernel_rfl) (fun _ _ _ h => h) (wantedF (by rfl)) ?_
            simp only [Act.put, List.getElem_cons_succ, List.getElem_cons_zero, List.setIfInBounds_toArray, List.set_cons_zero, List.set_cons_succ]
            refine wpR_take 21 (v := undef) (only2_moves g1 g2) (by decide) (by kernel_rfl) (by kernel_rfl) (by kernel_rfl) (fun _ _ _ h => h) (wantedF (by rfl)) ?_
            simp only [Act.put, List.getElem_cons_succ, List.getElem_cons_zero, List.setIfInBounds_toArray, List.set_cons_zero, List.set_cons_succ]
            refine wpR_take 22 (v := ?_) (only2_moves g1 g2) (by decide) (by kernel_rfl) (by kernel_rfl) (by kernel_rfl) (fun _ _ _ h => h) (wantedT (by rfl) ?_) ?_ ; rotate_left ; · ( intro w' hR ; simp only [List.getElem_cons_succ, List.getElem_cons_zero] ; go_simp ; try with_reducible rfl )
            simp only [Act.put, List.getElem_cons_succ, List.getElem_cons_zero, List.setIfInBounds_toArray, List.set_cons_zero, List.set_cons_succ]
            refine wpR_take 23 (v := ?_) (only2_moves g1 g2) (by decide) (by kernel_rfl) (by kernel_rfl) (by kernel_rfl) (fun _ _ _ h => h) (wantedT (by rfl) ?_) ?_ ; rotate_left ; · ( intro w' hR ; simp only [List.getElem_cons_succ, List.getElem_cons_zero] ; go_simp ; try with_reducible rfl )
            simp only [Act.put, List.getElem_cons_succ, List.getElem_cons_zero, List.setIfInBounds_toArray, List.set_cons_zero, List.set_cons_succ]
            refine wpR_take 24 (v := ?_) (only2_moves g1 g2) (by decide) (by kernel_rfl) (by kernel_rfl) (by kernel_rfl) (fun _ _ _ h => h) (wantedT (by rfl) ?_) ?_ ; rotate_left ; · ( intro w' hR ; simp only [List.getElem_cons_succ, List.getElem_cons_zero] ; go_simp ; try with_reducible rfl )
            simp only [Act.put, List.getElem_cons_succ, List.getElem_cons_zero, List.setIfInBounds_toArray, List.set_cons_zero, List.set_cons_succ]
            refine wpR_take 25 (v := ?_) (only2_moves g1 g2) (by decide) (by kernel_rfl) (by kernel_rfl) (by kernel_rfl) (fun _ _ _ h => h) (wantedT (by rfl) ?_) ?_ ; rotate_left ; · ( intro w' hR ; simp only [List.getElem_cons_succ, List.getElem_cons_zero] ; go_simp ; try with_reducible rfl )
            simp only [Act.put, List.getElem_cons_succ, List.getElem_cons_zero, List.setIfInBounds_toArray, List.set_cons_zero, List.set_cons_succ]
            refine wpR_take 26 (v := ?_) (only2_moves g1 g2) (by decide) (by kernel_rfl) (by kernel_rfl) (by kernel_rfl) (fun _ _ _ h => h) (wantedT (by rfl) ?_) ?_ ; rotate_left ; · ( intro w' hR ; simp only [List.getElem_cons_succ, List.getElem_cons_zero] ; go_simp ; try with_reducible rfl )
            simp only [Act.put, List.getElem_cons_succ, List.getElem_cons_zero, List.setIfInBounds_toArray, List.set_cons_zero, List.set_cons_succ]
            refine wpR_take 27 (v := ?_) (only2_moves g1 g2) (by decide) (by kernel_rfl) (by kernel_rfl) (by kernel_rfl) (fun _ _ _ h => h) (wantedT (by rfl) ?_) ?_ ; rotate_left ; · ( intro w' hR ; simp only [List.getElem_cons_succ, List.getElem_cons_zero] ; go_simp ; try with_reducible rfl )
            simp only [Act.put, List.getElem_cons_succ, List.getElem_cons_zero, List.setIfInBounds_toArray, List.set_cons_zero, List.set_cons_succ]
            refine wpR_take 28 (v := .agg #[.int .u8 (o.kind : Int), .int .i64 o.most, .int .u64 (o.p : Int)]) (only2_moves g1 g2) (by decide) (by kernel_rfl) (by kernel_rfl) (by kernel_rfl) (fun _ _ _ h => h) (wantedT (by rfl) ?_) ?_ ; · ( intro w' hR ; simp only [List.getElem_cons_succ, List.getElem_cons_zero] ; have q0 := ((hx0.drewN kk).only2 hR hg1x hg2x).cell 0 ; have q1 := ((hx0.drewN kk).only2 hR hg1x hg2x).cell 1 ; have q2 := ((hx0.drewN kk).only2 hR hg1x hg2x).cell 2 ; simp at q0 q1 q2 ; go_simp )
            simp only [Act.put, List.getElem_cons_succ, List.getElem_cons_zero, List.setIfInBounds_toArray, List.set_cons_zero, List.set_cons_succ]
            refine wpR_one 29 (only2_moves g1 g2) (by kernel_rfl) ?_
            refine wpS_call (by decide) (by rfl) ((do_any g1 g2 _ bd o l true _ (hw0.drew.drewN _) (hm0.drew'.drewN _) h12 hbd hbd2).mono ?_) (fun _ => by simp only [List.getElem_cons_succ, List.getElem_cons_zero] ; go_simp)
            rintro e w4 ⟨rfl, l4, f4, hw4, hm4, hq4⟩
            refine ⟨_, rfl, hq4, ?_⟩
            simp only [Act.put, List.getElem_cons_succ, List.getElem_cons_zero, List.setIfInBounds_toArray, List.set_cons_zero, List.set_cons_succ]
            refine wpR_take 30 (v := ?_) (only2_moves g1 g2) (by decide) (by kernel_rfl) (by kernel_rfl) (by kernel_rfl) (fun _ _ _ h => h) (wantedT (by rfl) ?_) ?_ ; rotate_left ; · ( intro w' hR ; simp only [List.getElem_cons_succ, List.getElem_cons_zero] ; go_simp ; try with_reducible rfl )
            simp only [Act.put, List.getElem_cons_succ, List.getElem_cons_zero, List.setIfInBounds_toArray, List.set_cons_zero, List.set_cons_succ]
            refine wpR_take 31 (v := ?_) (only2_moves g1 g2) (by decide) (by kernel_rfl) (by kernel_rfl) (by kernel_rfl) (fun _ _ _ h => h) (wantedT (by rfl) ?_) ?_ ; rotate_left ; · ( intro w' hR ; simp only [List.getElem_cons_succ, List.getElem_cons_zero] ; go_simp ; try with_reducible rfl )
            simp only [Act.put, List.getElem_cons_succ, List.getElem_cons_zero, List.setIfInBounds_toArray, List.set_cons_zero, List.set_cons_succ]
            refine wpR_done (by kernel_rfl) ?_
            have hbF := below_only2 (below_drewN' hb0.drew kk) hq4 hb0.size hB1 hB2
            clear hw0 hm0 hbm hb0 hx0 hq4
            go_wp2
            go_roundw
            case rel => exact ⟨j + 1, l4, f4, by omega, by go_num, hw4, hm4, hbF⟩
            case measure => simp [intOf]; omega
          · refine wpS_read (v := .bool true) (only2_moves g1 g2) (by decide) (by rfl) ?_ ?_ ; · ( simp only [List.getElem_cons_succ, List.getElem_cons_zero] ; have q := hbm.drew.cell 1 ; simp at q ; go_simp )
            simp only [Act.put, List.getElem_cons_succ, List.getElem_cons_zero, List.setIfInBounds_toArray, List.set_cons_zero, List.set_cons_succ]
            refine wpR_take 14 (v := ?_) (only2_moves g1 g2) (by decide) (by kernel_rfl) (by kernel_rfl) (by kernel_rfl) (fun _ _ _ h => h) (wantedT (by rfl) ?_) ?_ ; rotate_left ; · ( intro w' hR ; simp only [List.getElem_cons_succ, List.getElem_cons_zero] ; go_simp ; try with_reducible rfl )
            simp only [Act.put, List.getElem_cons_succ, List.getElem_cons_zero, List.setIfInBounds_toArray, List.set_cons_zero, List.set_cons_succ]
            refine wpR_one 9 (only2_moves g1 g2) (by kernel_rfl) ?_
            refine wpS_call (by decide) (by rfl) ((done_any g1 bd l true _ hw0.drew).mono ?_) (fun _ => by simp only [List.getElem_cons_succ, List.getElem_cons_zero] ; go_simp)
            rintro e w3 ⟨rfl, kk, rfl⟩
            rw [HD.out]
            refine ⟨_, rfl, only2_l (grown_drewN' (grown_refl' _ _) _), ?_⟩
            simp only [Act.put, List.getElem_cons_succ, List.getElem_cons_zero, List.setIfInBounds_toArray, List.set_cons_zero, List.set_cons_succ]
            refine wpR_take 15 (v := ?_) (only2_moves g1 g2) (by decide) (by kernel_rfl) (by kernel_rfl) (by kernel_rfl) (fun _ _ _ h => h) (wantedT (by rfl) ?_) ?_ ; rotate_left ; · ( intro w' hR ; simp only [List.getElem_cons_succ, List.getElem_cons_zero] ; go_simp ; try with_reducible rfl )
            simp only [Act.put, List.getElem_cons_succ, List.getElem_cons_zero, List.setIfInBounds_toArray, List.set_cons_zero, List.set_cons_succ]
            refine wpR_take 16 (v := undef) (only2_moves g1 g2) (by decide) (by kernel_rfl) (by kernel_rfl) (by kernel_rfl) (fun _ _ _ h => h) (wantedF (by rfl)) ?_
            simp only [Act.put, List.getElem_cons_succ, List.getElem_cons_zero, List.setIfInBounds_toArray, List.set_cons_zero, List.set_cons_succ]
            refine wpR_take 17 (v := undef) (only2_moves g1 g2) (by decide) (by kernel_rfl) (by kernel_rfl) (by kernel_rfl) (fun _ _ _ h => h) (wantedF (by rfl)) ?_
            simp only [Act.put, List.getElem_cons_succ, List.getElem_cons_zero, List.setIfInBounds_toArray, List.set_cons_zero, List.set_cons_succ]
            refine wpR_take 18 (v := undef) (only2_moves g1 g2) (by decide) (by kernel_rfl) (by kernel_rfl) (by kernel_rfl) (fun _ _ _ h => h) (wantedF (by rfl)) ?_
            simp only [Act.put, List.getElem_cons_succ, List.getElem_cons_zero, List.setIfInBounds_toArray, List.set_cons_zero, List.set_cons_succ]
            refine wpR_take 19 (v := undef) (only2_moves g1 g2) (by decide) (by kernel_rfl) (by kernel_rfl) (by kernel_rfl) (fun _ _ _ h => h) (wantedF (by rfl)) ?_
            simp only [Act.put, List.getElem_cons_succ, List.getElem_cons_zero, List.setIfInBounds_toArray, List.set_cons_zero, List.set_cons_succ]
            refine wpR_take 20 (v := undef) (only2_moves g1 g2) (by decide) (by kernel_rfl) (by kernel_rfl) (by kernel_rfl) (fun _ _ _ h => h) (wantedF (by rfl)) ?_
            simp only [Act.put, List.getElem_cons_succ, List.getElem_cons_zero, List.setIfInBounds_toArray, List.set_cons_zero, List.set_cons_succ]
            refine wpR_take 21 (v := undef) (only2_moves g1 g2) (by decide) (by kernel_rfl) (by kernel_rfl) (by kernel_rfl) (fun _ _ _ h => h) (wantedF (by rfl)) ?_
            simp only [Act.put, List.getElem_cons_succ, List.getElem_cons_zero, List.setIfInBounds_toArray, List.set_cons_zero, List.set_cons_succ]
            refine wpR_take 22 (v := ?_) (only2_moves g1 g2) (by decide) (by kernel_rfl) (by kernel_rfl) (by kernel_rfl) (fun _ _ _ h => h) (wantedT (by rfl) ?_) ?_ ; rotate_left ; · ( intro w' hR ; simp only [List.getElem_cons_succ, List.getElem_cons_zero] ; go_simp ; try with_reducible rfl )
            simp only [Act.put, List.getElem_cons_succ, List.getElem_cons_zero, List.setIfInBounds_toArray, List.set_cons_zero, List.set_cons_succ]
            refine wpR_take 23 (v := ?_) (only2_moves g1 g2) (by decide) (by kernel_rfl) (by kernel_rfl) (by kernel_rfl) (fun _ _ _ h => h) (wantedT (by rfl) ?_) ?_ ; rotate_left ; · ( intro w' hR ; simp only [List.getElem_cons_succ, List.getElem_cons_zero] ; go_simp ; try with_reducible rfl )
            simp only [Act.put, List.getElem_cons_succ, List.getElem_cons_zero, List.setIfInBounds_toArray, List.set_cons_zero, List.set_cons_succ]
            refine wpR_take 24 (v := ?_) (only2_moves g1 g2) (by decide) (by kernel_rfl) (by kernel_rfl) (by kernel_rfl) (fun _ _ _ h => h) (wantedT (by rfl) ?_) ?_ ; rotate_left ; · ( intro w' hR ; simp only [List.getElem_cons_succ, List.getElem_cons_zero] ; go_simp ; try with_reducible rfl )
            simp only [Act.put, List.getElem_cons_succ, List.getElem_cons_zero, List.setIfInBounds_toArray, List.set_cons_zero, List.set_cons_succ]
            refine wpR_take 25 (v := ?_) (only2_moves g1 g2) (by decide) (by kernel_rfl) (by kernel_rfl) (by kernel_rfl) (fun _ _ _ h => h) (wantedT (by rfl) ?_) ?_ ; rotate_left ; · ( intro w' hR ; simp only [List.getElem_cons_succ, List.getElem_cons_zero] ; go_simp ; try with_reducible rfl )
            simp only [Act.put, List.getElem_cons_succ, List.getElem_cons_zero, List.setIfInBounds_toArray, List.set_cons_zero, List.set_cons_succ]
            refine wpR_take 26 (v := ?_) (only2_moves g1 g2) (by decide) (by kernel_rfl) (by kernel_rfl) (by kernel_rfl) (fun _ _ _ h => h) (wantedT (by rfl) ?_) ?_ ; rotate_left ; · ( intro w' hR ; simp only [List.getElem_cons_succ, List.getElem_cons_zero] ; go_simp ; try with_reducible rfl )
            simp only [Act.put, List.getElem_cons_succ, List.getElem_cons_zero, List.setIfInBounds_toArray, List.set_cons_zero, List.set_cons_succ]
            refine wpR_take 27 (v := ?_) (only2_moves g1 g2) (by decide) (by kernel_rfl) (by kernel_rfl) (by kernel_rfl) (fun _ _ _ h => h) (wantedT (by rfl) ?_) ?_ ; rotate_left ; · ( intro w' hR ; simp only [List.getElem_cons_succ, List.getElem_cons_zero] ; go_simp ; try with_reducible rfl )
            simp only [Act.put, List.getElem_cons_succ, List.getElem_cons_zero, List.setIfInBounds_toArray, List.set_cons_zero, List.set_cons_succ]
            refine wpR_take 28 (v := .agg #[.int .u8 (o.kind : Int), .int .i64 o.most, .int .u64 (o.p : Int)]) (only2_moves g1 g2) (by decide) (by kernel_rfl) (by kernel_rfl) (by kernel_rfl) (fun _ _ _ h => h) (wantedT (by rfl) ?_) ?_ ; · ( intro w' hR ; simp only [List.getElem_cons_succ, List.getElem_cons_zero] ; have q0 := ((hx0.drewN kk).only2 hR hg1x hg2x).cell 0 ; have q1 := ((hx0.drewN kk).only2 hR hg1x hg2x).cell 1 ; have q2 := ((hx0.drewN kk).only2 hR hg1x hg2x).cell 2 ; simp at q0 q1 q2 ; go_simp )
            simp only [Act.put, List.getElem_cons_succ, List.getElem_cons_zero, List.setIfInBounds_toArray, List.set_cons_zero, List.set_cons_succ]
            refine wpR_one 29 (only2_moves g1 g2) (by kernel_rfl) ?_
            refine wpS_call (by decide) (by rfl) ((do_any g1 g2 _ bd o l true _ (hw0.drew.drewN _) (hm0.drew'.drewN _) h12 hbd hbd2).mono ?_) (fun _ => by simp only [List.getElem_cons_succ, List.getElem_cons_zero] ; go_simp)
            rintro e w4 ⟨rfl, l4, f4, hw4, hm4, hq4⟩
            refine ⟨_, rfl, hq4, ?_⟩
            simp only [Act.put, List.getElem_cons_succ, List.getElem_cons_zero, List.setIfInBounds_toArray, List.set_cons_zero, List.set_cons_succ]
            refine wpR_take 30 (v := ?_) (only2_moves g1 g2) (by decide) (by kernel_rfl) (by kernel_rfl) (by kernel_rfl) (fun _ _ _ h => h) (wantedT (by rfl) ?_) ?_ ; rotate_left ; · ( intro w' hR ; simp only [List.getElem_cons_succ, List.getElem_cons_zero] ; go_simp ; try with_reducible rfl )
            simp only [Act.put, List.getElem_cons_succ, List.getElem_cons_zero, List.setIfInBounds_toArray, List.set_cons_zero, List.set_cons_succ]
            refine wpR_take 31 (v := ?_) (only2_moves g1 g2) (by decide) (by kernel_rfl) (by kernel_rfl) (by kernel_rfl) (fun _ _ _ h => h) (wantedT (by rfl) ?_) ?_ ; rotate_left ; · ( intro w' hR ; simp only [List.getElem_cons_succ, List.getElem_cons_zero] ; go_simp ; try with_reducible rfl )
            simp only [Act.put, List.getElem_cons_succ, List.getElem_cons_zero, List.setIfInBounds_toArray, List.set_cons_zero, List.set_cons_succ]
            refine wpR_done (by kernel_rfl) ?_
            have hbF := below_only2 (below_drewN' hb0.drew kk) hq4 hb0.size hB1 hB2
            clear hw0 hm0 hbm hb0 hx0 hq4
            go_wp2
            go_roundw
            case rel => exact ⟨j + 1, l4, f4, by omega, by go_num, hw4, hm4, hbF⟩
            case measure => simp [intOf]; omega
      | false =>
        by_cases hle : l = []
        · have HLe := Lib.hid hle
          clear hle
          have HD : Hid ((!false && l.isEmpty) = true) := by show _ = _ ; rw [HLe.out] ; rfl
          have hz : ((n2 : Int) == 0) = true := by rw [beq_iff_eq] ; have := HLn.out ; rw [HLe.out] at this ; simp at this ; omega
          go_wp2_with fail
          refine wpR_begin (Only2 g1 g2) (by kernel_rfl) ?_
          refine wpR_take 0 (v := ?_) (only2_moves g1 g2) (by decide) (by kernel_rfl) (by kernel_rfl) (by kernel_rfl) (fun _ _ _ h => h) (wantedT (by rfl) ?_) ?_ ; rotate_left ; · ( intro w' hR ; simp only [List.getElem_cons_succ, List.getElem_cons_zero] ; go_simp ; try with_reducible rfl )
          simp only [Act.put, List.getElem_cons_succ, List.getElem_cons_zero, List.setIfInBounds_toArray, List.set_cons_zero, List.set_cons_succ]
          refine wpR_take 2 (v := ?_) (only2_moves g1 g2) (by decide) (by kernel_rfl) (by kernel_rfl) (by kernel_rfl) (fun _ _ _ h => h) (wantedT (by rfl) ?_) ?_ ; rotate_left ; · ( intro w' hR ; simp only [List.getElem_cons_succ, List.getElem_cons_zero] ; go_simp ; try with_reducible rfl )
          simp only [Act.put, List.getElem_cons_succ, List.getElem_cons_zero, List.setIfInBounds_toArray, List.set_cons_zero, List.set_cons_succ]
          refine wpR_take 3 (v := ?_) (only2_moves g1 g2) (by decide) (by kernel_rfl) (by kernel_rfl) (by kernel_rfl) (fun _ _ _ h => h) (wantedT (by rfl) ?_) ?_ ; rotate_left ; · ( intro w' hR ; simp only [List.getElem_cons_succ, List.getElem_cons_zero] ; go_simp ; try with_reducible rfl )
          simp only [Act.put, List.getElem_cons_succ, List.getElem_cons_zero, List.setIfInBounds_toArray, List.set_cons_zero, List.set_cons_succ]
          refine wpR_take 4 (v := ?_) (only2_moves g1 g2) (by decide) (by kernel_rfl) (by kernel_rfl) (by kernel_rfl) (fun _ _ _ h => h) (wantedT (by rfl) ?_) ?_ ; rotate_left ; · ( intro w' hR ; simp only [List.getElem_cons_succ, List.getElem_cons_zero] ; go_simp ; try with_reducible rfl )
          simp only [Act.put, List.getElem_cons_succ, List.getElem_cons_zero, List.setIfInBounds_toArray, List.set_cons_zero, List.set_cons_succ]
          refine wpR_two 1 5 (only2_moves g1 g2) (by kernel_rfl) ?_ ?_
          · refine wpS_call (by decide) (by rfl) ((failed_any g1 bd l false _ hw0.drew).mono ?_) (fun _ => by simp only [List.getElem_cons_succ, List.getElem_cons_zero] ; go_simp)
            rintro e w2 ⟨rfl, rfl⟩
            refine ⟨_, rfl, (only2_moves g1 g2).refl _, ?_⟩
            simp only [Act.put, List.getElem_cons_succ, List.getElem_cons_zero, List.setIfInBounds_toArray, List.set_cons_zero, List.set_cons_succ]
            refine wpR_one 5 (only2_moves g1 g2) (by kernel_rfl) ?_
            refine wpS_read (v := .bool false) (only2_moves g1 g2) (by decide) (by rfl) ?_ ?_ ; · ( simp only [List.getElem_cons_succ, List.getElem_cons_zero] ; have q := hbm.drew.cell 1 ; simp at q ; go_simp )
            simp only [Act.put, List.getElem_cons_succ, List.getElem_cons_zero, List.setIfInBounds_toArray, List.set_cons_zero, List.set_cons_succ]
            refine wpR_take 6 (v := ?_) (only2_moves g1 g2) (by decide) (by kernel_rfl) (by kernel_rfl) (by kernel_rfl) (fun _ _ _ h => h) (wantedT (by rfl) ?_) ?_ ; rotate_left ; · ( intro w' hR ; simp only [List.getElem_cons_succ, List.getElem_cons_zero] ; go_simp ; try with_reducible rfl )
            simp only [Act.put, List.getElem_cons_succ, List.getElem_cons_zero, List.setIfInBounds_toArray, List.set_cons_zero, List.set_cons_succ]
            refine wpR_take 7 (v := ?_) (only2_moves g1 g2) (by decide) (by kernel_rfl) (by kernel_rfl) (by kernel_rfl) (fun _ _ _ h => h) (wantedT (by rfl) ?_) ?_ ; rotate_left ; · ( intro w' hR ; simp only [List.getElem_cons_succ, List.getElem_cons_zero] ; go_simp ; try with_reducible rfl )
            simp only [Act.put, List.getElem_cons_succ, List.getElem_cons_zero, List.setIfInBounds_toArray, List.set_cons_zero, List.set_cons_succ]
            refine wpR_take 8 (v := ?_) (only2_moves g1 g2) (by decide) (by kernel_rfl) (by kernel_rfl) (by kernel_rfl) (fun _ _ _ h => h) (wantedT (by rfl) ?_) ?_ ; rotate_left ; · ( intro w' hR ; simp only [List.getElem_cons_succ, List.getElem_cons_zero] ; go_simp ; try with_reducible rfl )
            simp only [Act.put, List.getElem_cons_succ, List.getElem_cons_zero, List.setIfInBounds_toArray, List.set_cons_zero, List.set_cons_succ]
            refine wpR_take 10 (v := ?_) (only2_moves g1 g2) (by decide) (by kernel_rfl) (by kernel_rfl) (by kernel_rfl) (fun _ _ _ h => h) (wantedT (by rfl) ?_) ?_ ; rotate_left ; · ( intro w' hR ; simp only [List.getElem_cons_succ, List.getElem_cons_zero] ; go_simp ; try with_reducible rfl )
            simp only [Act.put, List.getElem_cons_succ, List.getElem_cons_zero, List.setIfInBounds_toArray, List.set_cons_zero, List.set_cons_succ]
            refine wpR_take 11 (v := ?_) (only2_moves g1 g2) (by decide) (by kernel_rfl) (by kernel_rfl) (by kernel_rfl) (fun _ _ _ h => h) (wantedT (by rfl) ?_) ?_ ; rotate_left ; · ( intro w' hR ; simp only [List.getElem_cons_succ, List.getElem_cons_zero] ; go_simp ; try with_reducible rfl )
            simp only [Act.put, List.getElem_cons_succ, List.getElem_cons_zero, List.setIfInBounds_toArray, List.set_cons_zero, List.set_cons_succ]
            refine wpR_take 12 (v := ?_) (only2_moves g1 g2) (by decide) (by kernel_rfl) (by kernel_rfl) (by kernel_rfl) (fun _ _ _ h => h) (wantedT (by rfl) ?_) ?_ ; rotate_left ; · ( intro w' hR ; simp only [List.getElem_cons_succ, List.getElem_cons_zero] ; go_simp ; try with_reducible rfl )
            simp only [Act.put, List.getElem_cons_succ, List.getElem_cons_zero, List.setIfInBounds_toArray, List.set_cons_zero, List.set_cons_succ]
            refine wpR_two 9 13 (only2_moves g1 g2) (by kernel_rfl) ?_ ?_
            · refine wpS_call (by decide) (by rfl) ((done_any g1 bd l false _ hw0.drew).mono ?_) (fun _ => by simp only [List.getElem_cons_succ, List.getElem_cons_zero] ; go_simp)
              rintro e w3 ⟨rfl, kk, rfl⟩
              rw [HD.out]
              refine ⟨_, rfl, only2_l (grown_drewN' (grown_refl' _ _) _), ?_⟩
              simp only [Act.put, List.getElem_cons_succ, List.getElem_cons_zero, List.setIfInBounds_toArray, List.set_cons_zero, List.set_cons_succ]
              refine wpR_one 13 (only2_moves g1 g2) (by kernel_rfl) ?_
              refine wpS_read (v := .bool false) (only2_moves g1 g2) (by decide) (by rfl) ?_ ?_ ; · ( simp only [List.getElem_cons_succ, List.getElem_cons_zero] ; have q := hbm.drew.cell 1 ; simp at q ; go_simp )
              simp only [Act.put, List.getElem_cons_succ, List.getElem_cons_zero, List.setIfInBounds_toArray, List.set_cons_zero, List.set_cons_succ]
              refine wpR_take 14 (v := ?_) (only2_moves g1 g2) (by decide) (by kernel_rfl) (by kernel_rfl) (by kernel_rfl) (fun _ _ _ h => h) (wantedT (by rfl) ?_) ?_ ; rotate_left ; · ( intro w' hR ; simp only [List.getElem_cons_succ, List.getElem_cons_zero] ; go_simp ; try with_reducible rfl )
              simp only [Act.put, List.getElem_cons_succ, List.getElem_cons_zero, List.setIfInBounds_toArray, List.set_cons_zero, List.set_cons_succ]
              refine wpR_take 15 (v := ?_) (only2_moves g1 g2) (by decide) (by kernel_rfl) (by kernel_rfl) (by kernel_rfl) (fun _ _ _ h => h) (wantedT (by rfl) ?_) ?_ ; rotate_left ; · ( intro w' hR ; simp only [List.getElem_cons_succ, List.getElem_cons_zero] ; go_simp ; try with_reducible rfl )
              simp only [Act.put, List.getElem_cons_succ, List.getElem_cons_zero, List.setIfInBounds_toArray, List.set_cons_zero, List.set_cons_succ]
              refine wpR_take 16 (v := ?_) (only2_moves g1 g2) (by decide) (by kernel_rfl) (by kernel_rfl) (by kernel_rfl) (fun _ _ _ h => h) (wantedT (by rfl) ?_) ?_ ; rotate_left ; · ( intro w' hR ; simp only [List.getElem_cons_succ, List.getElem_cons_zero] ; go_simp ; try with_reducible rfl )
              simp only [Act.put, List.getElem_cons_succ, List.getElem_cons_zero, List.setIfInBounds_toArray, List.set_cons_zero, List.set_cons_succ]
              refine wpR_take 17 (v := ?_) (only2_moves g1 g2) (by decide) (by kernel_rfl) (by kernel_rfl) (by kernel_rfl) (fun _ _ _ h => h) (wantedT (by rfl) ?_) ?_ ; rotate_left ; · ( intro w' hR ; simp only [List.getElem_cons_succ, List.getElem_cons_zero] ; go_simp ; try with_reducible rfl )
              simp only [Act.put, List.getElem_cons_succ, List.getElem_cons_zero, List.setIfInBounds_toArray, List.set_cons_zero, List.set_cons_succ]
              refine wpR_take 18 (v := ?_) (only2_moves g1 g2) (by decide) (by kernel_rfl) (by kernel_rfl) (by kernel_rfl) (fun _ _ _ h => h) (wantedT (by rfl) ?_) ?_ ; rotate_left ; · ( intro w' hR ; simp only [List.getElem_cons_succ, List.getElem_cons_zero] ; go_simp ; try with_reducible rfl )
              simp only [Act.put, List.getElem_cons_succ, List.getElem_cons_zero, List.setIfInBounds_toArray, List.set_cons_zero, List.set_cons_succ]
              refine wpR_one 19 (only2_moves g1 g2) (by kernel_rfl) ?_
              refine wpS_read (v := .slice A2 n2 c2) (only2_moves g1 g2) (by decide) (by rfl) ?_ ?_ ; · ( simp only [List.getElem_cons_succ, List.getElem_cons_zero] ; have q := hbm.drew.cell 0 ; simp at q ; go_simp )
              simp only [Act.put, List.getElem_cons_succ, List.getElem_cons_zero, List.setIfInBounds_toArray, List.set_cons_zero, List.set_cons_succ]
              refine wpR_take 20 (v := ?_) (only2_moves g1 g2) (by decide) (by kernel_rfl) (by kernel_rfl) (by kernel_rfl) (fun _ _ _ h => h) (wantedT (by rfl) ?_) ?_ ; rotate_left ; · ( intro w' hR ; simp only [List.getElem_cons_succ, List.getElem_cons_zero] ; go_simp ; try with_reducible rfl )
              simp only [Act.put, List.getElem_cons_succ, List.getElem_cons_zero, List.setIfInBounds_toArray, List.set_cons_zero, List.set_cons_succ]
              refine wpR_take 21 (v := ?_) (only2_moves g1 g2) (by decide) (by kernel_rfl) (by kernel_rfl) (by kernel_rfl) (fun _ _ _ h => h) (wantedT (by rfl) ?_) ?_ ; rotate_left ; · ( intro w' hR ; simp only [List.getElem_cons_succ, List.getElem_cons_zero] ; go_simp ; try with_reducible rfl )
              simp only [Act.put, List.getElem_cons_succ, List.getElem_cons_zero, List.setIfInBounds_toArray, List.set_cons_zero, List.set_cons_succ]
              refine wpR_take 22 (v := ?_) (only2_moves g1 g2) (by decide) (by kernel_rfl) (by kernel_rfl) (by kernel_rfl) (fun _ _ _ h => h) (wantedT (by rfl) ?_) ?_ ; rotate_left ; · ( intro w' hR ; simp only [List.getElem_cons_succ, List.getElem_cons_zero] ; go_simp ; try with_reducible rfl )
              simp only [Act.put, List.getElem_cons_succ, List.getElem_cons_zero, List.setIfInBounds_toArray, List.set_cons_zero, List.set_cons_succ]
              refine wpR_take 23 (v := ?_) (only2_moves g1 g2) (by decide) (by kernel_rfl) (by kernel_rfl) (by kernel_rfl) (fun _ _ _ h => h) (wantedT (by rfl) ?_) ?_ ; rotate_left ; · ( intro w' hR ; simp only [List.getElem_cons_succ, List.getElem_cons_zero] ; go_simp ; try with_reducible rfl )
              simp only [Act.put, List.getElem_cons_succ, List.getElem_cons_zero, List.setIfInBounds_toArray, List.set_cons_zero, List.set_cons_succ]
              refine wpR_take 24 (v := ?_) (only2_moves g1 g2) (by decide) (by kernel_rfl) (by kernel_rfl) (by kernel_rfl) (fun _ _ _ h => h) (wantedT (by rfl) ?_) ?_ ; rotate_left ; · ( intro w' hR ; simp only [List.getElem_cons_succ, List.getElem_cons_zero] ; go_simp ; try with_reducible rfl )
              simp only [Act.put, List.getElem_cons_succ, List.getElem_cons_zero, List.setIfInBounds_toArray, List.set_cons_zero, List.set_cons_succ]
              refine wpR_take 25 (v := ?_) (only2_moves g1 g2) (by decide) (by kernel_rfl) (by kernel_rfl) (by kernel_rfl) (fun _ _ _ h => h) (wantedT (by rfl) ?_) ?_ ; rotate_left ; · ( intro w' hR ; simp only [List.getElem_cons_succ, List.getElem_cons_zero] ; go_simp ; try with_reducible rfl )
              simp only [Act.put, List.getElem_cons_succ, List.getElem_cons_zero, List.setIfInBounds_toArray, List.set_cons_zero, List.set_cons_succ]
              refine wpR_take 26 (v := ?_) (only2_moves g1 g2) (by decide) (by kernel_rfl) (by kernel_rfl) (by kernel_rfl) (fun _ _ _ h => h) (wantedT (by rfl) ?_) ?_ ; rotate_left ; · ( intro w' hR ; simp only [List.getElem_cons_succ, List.getElem_cons_zero] ; go_simp ; try with_reducible rfl )
              simp only [Act.put, List.getElem_cons_succ, List.getElem_cons_zero, List.setIfInBounds_toArray, List.set_cons_zero, List.set_cons_succ]
              refine wpR_take 27 (v := ?_) (only2_moves g1 g2) (by decide) (by kernel_rfl) (by kernel_rfl) (by kernel_rfl) (fun _ _ _ h => h) (wantedT (by rfl) ?_) ?_ ; rotate_left ; · ( intro w' hR ; simp only [List.getElem_cons_succ, List.getElem_cons_zero] ; go_simp ; try with_reducible rfl )
              simp only [Act.put, List.getElem_cons_succ, List.getElem_cons_zero, List.setIfInBounds_toArray, List.set_cons_zero, List.set_cons_succ]
              refine wpR_take 28 (v := .agg #[.int .u8 (o.kind : Int), .int .i64 o.most, .int .u64 (o.p : Int)]) (only2_moves g1 g2) (by decide) (by kernel_rfl) (by kernel_rfl) (by kernel_rfl) (fun _ _ _ h => h) (wantedT (by rfl) ?_) ?_ ; · ( intro w' hR ; simp only [List.getElem_cons_succ, List.getElem_cons_zero] ; have q0 := ((hx0.drewN kk).only2 hR hg1x hg2x).cell 0 ; have q1 := ((hx0.drewN kk).only2 hR hg1x hg2x).cell 1 ; have q2 := ((hx0.drewN kk).only2 hR hg1x hg2x).cell 2 ; simp at q0 q1 q2 ; go_simp )
              simp only [Act.put, List.getElem_cons_succ, List.getElem_cons_zero, List.setIfInBounds_toArray, List.set_cons_zero, List.set_cons_succ]
              refine wpR_one 29 (only2_moves g1 g2) (by kernel_rfl) ?_
              refine wpS_call (by decide) (by rfl) ((do_any g1 g2 _ bd o l false _ (hw0.drew.drewN _) (hm0.drew'.drewN _) h12 hbd hbd2).mono ?_) (fun _ => by simp only [List.getElem_cons_succ, List.getElem_cons_zero] ; go_simp)
              rintro e w4 ⟨rfl, l4, f4, hw4, hm4, hq4⟩
              refine ⟨_, rfl, hq4, ?_⟩
              simp only [Act.put, List.getElem_cons_succ, List.getElem_cons_zero, List.setIfInBounds_toArray, List.set_cons_zero, List.set_cons_succ]
              refine wpR_take 30 (v := ?_) (only2_moves g1 g2) (by decide) (by kernel_rfl) (by kernel_rfl) (by kernel_rfl) (fun _ _ _ h => h) (wantedT (by rfl) ?_) ?_ ; rotate_left ; · ( intro w' hR ; simp only [List.getElem_cons_succ, List.getElem_cons_zero] ; go_simp ; try with_reducible rfl )
              simp only [Act.put, List.getElem_cons_succ, List.getElem_cons_zero, List.setIfInBounds_toArray, List.set_cons_zero, List.set_cons_succ]
              refine wpR_take 31 (v := ?_) (only2_moves g1 g2) (by decide) (by kernel_rfl) (by kernel_rfl) (by kernel_rfl) (fun _ _ _ h => h) (wantedT (by rfl) ?_) ?_ ; rotate_left ; · ( intro w' hR ; simp only [List.getElem_cons_succ, List.getElem_cons_zero] ; go_simp ; try with_reducible rfl )
              simp only [Act.put, List.getElem_cons_succ, List.getElem_cons_zero, List.setIfInBounds_toArray, List.set_cons_zero, List.set_cons_succ]
              refine wpR_done (by kernel_rfl) ?_
              have hbF := below_only2 (below_drewN' hb0.drew kk) hq4 hb0.size hB1 hB2
              clear hw0 hm0 hbm hb0 hx0 hq4
              go_wp2
              go_roundw
              case rel => exact ⟨j + 1, l4, f4, by omega, by go_num, hw4, hm4, hbF⟩
              case measure => simp [intOf]; omega
            · refine wpS_read (v := .bool false) (only2_moves g1 g2) (by decide) (by rfl) ?_ ?_ ; · ( simp only [List.getElem_cons_succ, List.getElem_cons_zero] ; have q := hbm.drew.cell 1 ; simp at q ; go_simp )
              simp only [Act.put, List.getElem_cons_succ, List.getElem_cons_zero, List.setIfInBounds_toArray, List.set_cons_zero, List.set_cons_succ]
              refine wpR_take 14 (v := ?_) (only2_moves g1 g2) (by decide) (by kernel_rfl) (by kernel_rfl) (by kernel_rfl) (fun _ _ _ h => h) (wantedT (by rfl) ?_) ?_ ; rotate_left ; · ( intro w' hR ; simp only [List.getElem_cons_succ, List.getElem_cons_zero] ; go_simp ; try with_reducible rfl )
              simp only [Act.put, List.getElem_cons_succ, List.getElem_cons_zero, List.setIfInBounds_toArray, List.set_cons_zero, List.set_cons_succ]
              refine wpR_one 9 (only2_moves g1 g2) (by kernel_rfl) ?_
              refine wpS_call (by decide) (by rfl) ((done_any g1 bd l false _ hw0.drew).mono ?_) (fun _ => by simp only [List.getElem_cons_succ, List.getElem_cons_zero] ; go_simp)
              rintro e w3 ⟨rfl, kk, rfl⟩
              rw [HD.out]
              refine ⟨_, rfl, only2_l (grown_drewN' (grown_refl' _ _) _), ?_⟩
              simp only [Act.put, List.getElem_cons_succ, List.getElem_cons_zero, List.setIfInBounds_toArray, List.set_cons_zero, List.set_cons_succ]
              refine wpR_take 15 (v := ?_) (only2_moves g1 g2) (by decide) (by kernel_rfl) (by kernel_rfl) (by kernel_rfl) (fun _ _ _ h => h) (wantedT (by rfl) ?_) ?_ ; rotate_left ; · ( intro w' hR ; simp only [List.getElem_cons_succ, List.getElem_cons_zero] ; go_simp ; try with_reducible rfl )
              simp only [Act.put, List.getElem_cons_succ, List.getElem_cons_zero, List.setIfInBounds_toArray, List.set_cons_zero, List.set_cons_succ]
              refine wpR_take 16 (v := ?_) (only2_moves g1 g2) (by decide) (by kernel_rfl) (by kernel_rfl) (by kernel_rfl) (fun _ _ _ h => h) (wantedT (by rfl) ?_) ?_ ; rotate_left ; · ( intro w' hR ; simp only [List.getElem_cons_succ, List.getElem_cons_zero] ; go_simp ; try with_reducible rfl )
              simp only [Act.put, List.getElem_cons_succ, List.getElem_cons_zero, List.setIfInBounds_toArray, List.set_cons_zero, List.set_cons_succ]
              refine wpR_take 17 (v := ?_) (only2_moves g1 g2) (by decide) (by kernel_rfl) (by kernel_rfl) (by kernel_rfl) (fun _ _ _ h => h) (wantedT (by rfl) ?_) ?_ ; rotate_left ; · ( intro w' hR ; simp only [List.getElem_cons_succ, List.getElem_cons_zero] ; go_simp ; try with_reducible rfl )
              simp only [Act.put, List.getElem_cons_succ, List.getElem_cons_zero, List.setIfInBounds_toArray, List.set_cons_zero, List.set_cons_succ]
              refine wpR_take 18 (v := ?_) (only2_moves g1 g2) (by decide) (by kernel_rfl) (by kernel_rfl) (by kernel_rfl) (fun _ _ _ h => h) (wantedT (by rfl) ?_) ?_ ; rotate_left ; · ( intro w' hR ; simp only [List.getElem_cons_succ, List.getElem_cons_zero] ; go_simp ; try with_reducible rfl )
              simp only [Act.put, List.getElem_cons_succ, List.getElem_cons_zero, List.setIfInBounds_toArray, List.set_cons_zero, List.set_cons_succ]
              refine wpR_one 19 (only2_moves g1 g2) (by kernel_rfl) ?_
              refine wpS_read (v := .slice A2 n2 c2) (only2_moves g1 g2) (by decide) (by rfl) ?_ ?_ ; · ( simp only [List.getElem_cons_succ, List.getElem_cons_zero] ; have q := hbm.drew.cell 0 ; simp at q ; go_simp )
              simp only [Act.put, List.getElem_cons_succ, List.getElem_cons_zero, List.setIfInBounds_toArray, List.set_cons_zero, List.set_cons_succ]
              refine wpR_take 20 (v := ?_) (only2_moves g1 g2) (by decide) (by kernel_rfl) (by kernel_rfl) (by kernel_rfl) (fun _ _ _ h => h) (wantedT (by rfl) ?_) ?_ ; rotate_left ; · ( intro w' hR ; simp only [List.getElem_cons_succ, List.getElem_cons_zero] ; go_simp ; try with_reducible rfl )
              simp only [Act.put, List.getElem_cons_succ, List.getElem_cons_zero, List.setIfInBounds_toArray, List.set_cons_zero, List.set_cons_succ]
              refine wpR_take 21 (v := ?_) (only2_moves g1 g2) (by decide) (by kernel_rfl) (by kernel_rfl) (by kernel_rfl) (fun _ _ _ h => h) (wantedT (by rfl) ?_) ?_ ; rotate_left ; · ( intro w' hR ; simp only [List.getElem_cons_succ, List.getElem_cons_zero] ; go_simp ; try with_reducible rfl )
              simp only [Act.put, List.getElem_cons_succ, List.getElem_cons_zero, List.setIfInBounds_toArray, List.set_cons_zero, List.set_cons_succ]
              refine wpR_take 22 (v := ?_) (only2_moves g1 g2) (by decide) (by kernel_rfl) (by kernel_rfl) (by kernel_rfl) (fun _ _ _ h => h) (wantedT (by rfl) ?_) ?_ ; rotate_left ; · ( intro w' hR ; simp only [List.getElem_cons_succ, List.getElem_cons_zero] ; go_simp ; try with_reducible rfl )
              simp only [Act.put, List.getElem_cons_succ, List.getElem_cons_zero, List.setIfInBounds_toArray, List.set_cons_zero, List.set_cons_succ]
              refine wpR_take 23 (v := ?_) (only2_moves g1 g2) (by decide) (by kernel_rfl) (by kernel_rfl) (by kernel_rfl) (fun _ _ _ h => h) (wantedT (by rfl) ?_) ?_ ; rotate_left ; · ( intro w' hR ; simp only [List.getElem_cons_succ, List.getElem_cons_zero] ; go_simp ; try with_reducible rfl )
              simp only [Act.put, List.getElem_cons_succ, List.getElem_cons_zero, List.setIfInBounds_toArray, List.set_cons_zero, List.set_cons_succ]
              refine wpR_take 24 (v := ?_) (only2_moves g1 g2) (by decide) (by kernel_rfl) (by kernel_rfl) (by kernel_rfl) (fun _ _ _ h => h) (wantedT (by rfl) ?_) ?_ ; rotate_left ; · ( intro w' hR ; simp only [List.getElem_cons_succ, List.getElem_cons_zero] ; go_simp ; try with_reducible rfl )
              simp only [Act.put, List.getElem_cons_succ, List.getElem_cons_zero, List.setIfInBounds_toArray, List.set_cons_zero, List.set_cons_succ]
              refine wpR_take 25 (v := ?_) (only2_moves g1 g2) (by decide) (by kernel_rfl) (by kernel_rfl) (by kernel_rfl) (fun _ _ _ h => h) (wantedT (by rfl) ?_) ?_ ; rotate_left ; · ( intro w' hR ; simp only [List.getElem_cons_succ, List.getElem_cons_zero] ; go_simp ; try with_reducible rfl )
              simp only [Act.put, List.getElem_cons_succ, List.getElem_cons_zero, List.setIfInBounds_toArray, List.set_cons_zero, List.set_cons_succ]
              refine wpR_take 26 (v := ?_) (only2_moves g1 g2) (by decide) (by kernel_rfl) (by kernel_rfl) (by kernel_rfl) (fun _ _ _ h => h) (wantedT (by rfl) ?_) ?_ ; rotate_left ; · ( intro w' hR ; simp only [List.getElem_cons_succ, List.getElem_cons_zero] ; go_simp ; try with_reducible rfl )
              simp only [Act.put, List.getElem_cons_succ, List.getElem_cons_zero, List.setIfInBounds_toArray, List.set_cons_zero, List.set_cons_succ]
              refine wpR_take 27 (v := ?_) (only2_moves g1 g2) (by decide) (by kernel_rfl) (by kernel_rfl) (by kernel_rfl) (fun _ _ _ h => h) (wantedT (by rfl) ?_) ?_ ; rotate_left ; · ( intro w' hR ; simp only [List.getElem_cons_succ, List.getElem_cons_zero] ; go_simp ; try with_reducible rfl )
              simp only [Act.put, List.getElem_cons_succ, List.getElem_cons_zero, List.setIfInBounds_toArray, List.set_cons_zero, List.set_cons_succ]
              refine wpR_take 28 (v := .agg #[.int .u8 (o.kind : Int), .int .i64 o.most, .int .u64 (o.p : Int)]) (only2_moves g1 g2) (by decide) (by kernel_rfl) (by kernel_rfl) (by kernel_rfl) (fun _ _ _ h => h) (wantedT (by rfl) ?_) ?_ ; · ( intro w' hR ; simp only [List.getElem_cons_succ, List.getElem_cons_zero] ; have q0 := ((hx0.drewN kk).only2 hR hg1x hg2x).cell 0 ; have q1 := ((hx0.drewN kk).only2 hR hg1x hg2x).cell 1 ; have q2 := ((hx0.drewN kk).only2 hR hg1x hg2x).cell 2 ; simp at q0 q1 q2 ; go_simp )
              simp only [Act.put, List.getElem_cons_succ, List.getElem_cons_zero, List.setIfInBounds_toArray, List.set_cons_zero, List.set_cons_succ]
              refine wpR_one 29 (only2_moves g1 g2) (by kernel_rfl) ?_
              refine wpS_call (by decide) (by rfl) ((do_any g1 g2 _ bd o l false _ (hw0.drew.drewN _) (hm0.drew'.drewN _) h12 hbd hbd2).mono ?_) (fun _ => by simp only [List.getElem_cons_succ, List.getElem_cons_zero] ; go_simp)
              rintro e w4 ⟨rfl, l4, f4, hw4, hm4, hq4⟩
              refine ⟨_, rfl, hq4, ?_⟩
              simp only [Act.put, List.getElem_cons_succ, List.getElem_cons_zero, List.setIfInBounds_toArray, List.set_cons_zero, List.set_cons_succ]
              refine wpR_take 30 (v := ?_) (only2_moves g1 g2) (by decide) (by kernel_rfl) (by kernel_rfl) (by kernel_rfl) (fun _ _ _ h => h) (wantedT (by rfl) ?_) ?_ ; rotate_left ; · ( intro w' hR ; simp only [List.getElem_cons_succ, List.getElem_cons_zero] ; go_simp ; try with_reducible rfl )
              simp only [Act.put, List.getElem_cons_succ, List.getElem_cons_zero, List.setIfInBounds_toArray, List.set_cons_zero, List.set_cons_succ]
              refine wpR_take 31 (v := ?_) (only2_moves g1 g2) (by decide) (by kernel_rfl) (by kernel_rfl) (by kernel_rfl) (fun _ _ _ h => h) (wantedT (by rfl) ?_) ?_ ; rotate_left ; · ( intro w' hR ; simp only [List.getElem_cons_succ, List.getElem_cons_zero] ; go_simp ; try with_reducible rfl )
              simp only [Act.put, List.getElem_cons_succ, List.getElem_cons_zero, List.setIfInBounds_toArray, List.set_cons_zero, List.set_cons_succ]
              refine wpR_done (by kernel_rfl) ?_
              have hbF := below_only2 (below_drewN' hb0.drew kk) hq4 hb0.size hB1 hB2
              clear hw0 hm0 hbm hb0 hx0 hq4
              go_wp2
              go_roundw
              case rel => exact ⟨j + 1, l4, f4, by omega, by go_num, hw4, hm4, hbF⟩
              case measure => simp [intOf]; omega
          · refine wpS_read (v := .bool false) (only2_moves g1 g2) (by decide) (by rfl) ?_ ?_ ; · ( simp only [List.getElem_cons_succ, List.getElem_cons_zero] ; have q := hbm.drew.cell 1 ; simp at q ; go_simp )
            simp only [Act.put, List.getElem_cons_succ, List.getElem_cons_zero, List.setIfInBounds_toArray, List.set_cons_zero, List.set_cons_succ]
            refine wpR_one 1 (only2_moves g1 g2) (by kernel_rfl) ?_
            refine wpS_call (by decide) (by rfl) ((failed_any g1 bd l false _ hw0.drew).mono ?_) (fun _ => by simp only [List.getElem_cons_succ, List.getElem_cons_zero] ; go_simp)
            rintro e w2 ⟨rfl, rfl⟩
            refine ⟨_, rfl, (only2_moves g1 g2).refl _, ?_⟩
            simp only [Act.put, List.getElem_cons_succ, List.getElem_cons_zero, List.setIfInBounds_toArray, List.set_cons_zero, List.set_cons_succ]
            refine wpR_take 6 (v := ?_) (only2_moves g1 g2) (by decide) (by kernel_rfl) (by kernel_rfl) (by kernel_rfl) (fun _ _ _ h => h) (wantedT (by rfl) ?_) ?_ ; rotate_left ; · ( intro w' hR ; simp only [List.getElem_cons_succ, List.getElem_cons_zero] ; go_simp ; try with_reducible rfl )
            simp only [Act.put, List.getElem_cons_succ, List.getElem_cons_zero, List.setIfInBounds_toArray, List.set_cons_zero, List.set_cons_succ]
            refine wpR_take 7 (v := ?_) (only2_moves g1 g2) (by decide) (by kernel_rfl) (by kernel_rfl) (by kernel_rfl) (fun _ _ _ h => h) (wantedT (by rfl) ?_) ?_ ; rotate_left ; · ( intro w' hR ; simp only [List.getElem_cons_succ, List.getElem_cons_zero] ; go_simp ; try with_reducible rfl )
            simp only [Act.put, List.getElem_cons_succ, List.getElem_cons_zero, List.setIfInBounds_toArray, List.set_cons_zero, List.set_cons_succ]
            refine wpR_take 8 (v := ?_) (only2_moves g1 g2) (by decide) (by kernel_rfl) (by kernel_rfl) (by kernel_rfl) (fun _ _ _ h => h) (wantedT (by rfl) ?_) ?_ ; rotate_left ; · ( intro w' hR ; simp only [List.getElem_cons_succ, List.getElem_cons_zero] ; go_simp ; try with_reducible rfl )
            simp only [Act.put, List.getElem_cons_succ, List.getElem_cons_zero, List.setIfInBounds_toArray, List.set_cons_zero, List.set_cons_succ]
            refine wpR_take 10 (v := ?_) (only2_moves g1 g2) (by decide) (by kernel_rfl) (by kernel_rfl) (by kernel_rfl) (fun _ _ _ h => h) (wantedT (by rfl) ?_) ?_ ; rotate_left ; · ( intro w' hR ; simp only [List.getElem_cons_succ, List.getElem_cons_zero] ; go_simp ; try with_reducible rfl )
            simp only [Act.put, List.getElem_cons_succ, List.getElem_cons_zero, List.setIfInBounds_toArray, List.set_cons_zero, List.set_cons_succ]
            refine wpR_take 11 (v := ?_) (only2_moves g1 g2) (by decide) (by kernel_rfl) (by kernel_rfl) (by kernel_rfl) (fun _ _ _ h => h) (wantedT (by rfl) ?_) ?_ ; rotate_left ; · ( intro w' hR ; simp only [List.getElem_cons_succ, List.getElem_cons_zero] ; go_simp ; try with_reducible rfl )
            simp only [Act.put, List.getElem_cons_succ, List.getElem_cons_zero, List.setIfInBounds_toArray, List.set_cons_zero, List.set_cons_succ]
            refine wpR_take 12 (v := ?_) (only2_moves g1 g2) (by decide) (by kernel_rfl) (by kernel_rfl) (by kernel_rfl) (fun _ _ _ h => h) (wantedT (by rfl) ?_) ?_ ; rotate_left ; · ( intro w' hR ; simp only [List.getElem_cons_succ, List.getElem_cons_zero] ; go_simp ; try with_reducible rfl )
            simp only [Act.put, List.getElem_cons_succ, List.getElem_cons_zero, List.setIfInBounds_toArray, List.set_cons_zero, List.set_cons_succ]
            refine wpR_two 9 13 (only2_moves g1 g2) (by kernel_rfl) ?_ ?_
            · refine wpS_call (by decide) (by rfl) ((done_any g1 bd l false _ hw0.drew).mono ?_) (fun _ => by simp only [List.getElem_cons_succ, List.getElem_cons_zero] ; go_simp)
              rintro e w3 ⟨rfl, kk, rfl⟩
              rw [HD.out]
              refine ⟨_, rfl, only2_l (grown_drewN' (grown_refl' _ _) _), ?_⟩
              simp only [Act.put, List.getElem_cons_succ, List.getElem_cons_zero, List.setIfInBounds_toArray, List.set_cons_zero, List.set_cons_succ]
              refine wpR_one 13 (only2_moves g1 g2) (by kernel_rfl) ?_
              refine wpS_read (v := .bool false) (only2_moves g1 g2) (by decide) (by rfl) ?_ ?_ ; · ( simp only [List.getElem_cons_succ, List.getElem_cons_zero] ; have q := hbm.drew.cell 1 ; simp at q ; go_simp )
              simp only [Act.put, List.getElem_cons_succ, List.getElem_cons_zero, List.setIfInBounds_toArray, List.set_cons_zero, List.set_cons_succ]
              refine wpR_take 14 (v := ?_) (only2_moves g1 g2) (by decide) (by kernel_rfl) (by kernel_rfl) (by kernel_rfl) (fun _ _ _ h => h) (wantedT (by rfl) ?_) ?_ ; rotate_left ; · ( intro w' hR ; simp only [List.getElem_cons_succ, List.getElem_cons_zero] ; go_simp ; try with_reducible rfl )
              simp only [Act.put, List.getElem_cons_succ, List.getElem_cons_zero, List.setIfInBounds_toArray, List.set_cons_zero, List.set_cons_succ]
              refine wpR_take 15 (v := ?_) (only2_moves g1 g2) (by decide) (by kernel_rfl) (by kernel_rfl) (by kernel_rfl) (fun _ _ _ h => h) (wantedT (by rfl) ?_) ?_ ; rotate_left ; · ( intro w' hR ; simp only [List.getElem_cons_succ, List.getElem_cons_zero] ; go_simp ; try with_reducible rfl )
              simp only [Act.put, List.getElem_cons_succ, List.getElem_cons_zero, List.setIfInBounds_toArray, List.set_cons_zero, List.set_cons_succ]
              refine wpR_take 16 (v := ?_) (only2_moves g1 g2) (by decide) (by kernel_rfl) (by kernel_rfl) (by kernel_rfl) (fun _ _ _ h => h) (wantedT (by rfl) ?_) ?_ ; rotate_left ; · ( intro w' hR ; simp only [List.getElem_cons_succ, List.getElem_cons_zero] ; go_simp ; try with_reducible rfl )
              simp only [Act.put, List.getElem_cons_succ, List.getElem_cons_zero, List.setIfInBounds_toArray, List.set_cons_zero, List.set_cons_succ]
              refine wpR_take 17 (v := ?_) (only2_moves g1 g2) (by decide) (by kernel_rfl) (by kernel_rfl) (by kernel_rfl) (fun _ _ _ h => h) (wantedT (by rfl) ?_) ?_ ; rotate_left ; · ( intro w' hR ; simp only [List.getElem_cons_succ, List.getElem_cons_zero] ; go_simp ; try with_reducible rfl )
              simp only [Act.put, List.getElem_cons_succ, List.getElem_cons_zero, List.setIfInBounds_toArray, List.set_cons_zero, List.set_cons_succ]
              refine wpR_take 18 (v := ?_) (only2_moves g1 g2) (by decide) (by kernel_rfl) (by kernel_rfl) (by kernel_rfl) (fun _ _ _ h => h) (wantedT (by rfl) ?_) ?_ ; rotate_left ; · ( intro w' hR ; simp only [List.getElem_cons_succ, List.getElem_cons_zero] ; go_simp ; try with_reducible rfl )
              simp only [Act.put, List.getElem_cons_succ, List.getElem_cons_zero, List.setIfInBounds_toArray, List.set_cons_zero, List.set_cons_succ]
              refine wpR_one 19 (only2_moves g1 g2) (by kernel_rfl) ?_
              refine wpS_read (v := .slice A2 n2 c2) (only2_moves g1 g2) (by decide) (by rfl) ?_ ?_ ; · ( simp only [List.getElem_cons_succ, List.getElem_cons_zero] ; have q := hbm.drew.cell 0 ; simp at q ; go_simp )
              simp only [Act.put, List.getElem_cons_succ, List.getElem_cons_zero, List.setIfInBounds_toArray, List.set_cons_zero, List.set_cons_succ]
              refine wpR_take 20 (v := ?_) (only2_moves g1 g2) (by decide) (by kernel_rfl) (by kernel_rfl) (by kernel_rfl) (fun _ _ _ h => h) (wantedT (by rfl) ?_) ?_ ; rotate_left ; · ( intro w' hR ; simp only [List.getElem_cons_succ, List.getElem_cons_zero] ; go_simp ; try with_reducible rfl )
              simp only [Act.put, List.getElem_cons_succ, List.getElem_cons_zero, List.setIfInBounds_toArray, List.set_cons_zero, List.set_cons_succ]
              refine wpR_take 21 (v := ?_) (only2_moves g1 g2) (by decide) (by kernel_rfl) (by kernel_rfl) (by kernel_rfl) (fun _ _ _ h => h) (wantedT (by rfl) ?_) ?_ ; rotate_left ; · ( intro w' hR ; simp only [List.getElem_cons_succ, List.getElem_cons_zero] ; go_simp ; try with_reducible rfl )
              simp only [Act.put, List.getElem_cons_succ, List.getElem_cons_zero, List.setIfInBounds_toArray, List.set_cons_zero, List.set_cons_succ]
              refine wpR_take 22 (v := ?_) (only2_moves g1 g2) (by decide) (by kernel_rfl) (by kernel_rfl) (by kernel_rfl) (fun _ _ _ h => h) (wantedT (by rfl) ?_) ?_ ; rotate_left ; · ( intro w' hR ; simp only [List.getElem_cons_succ, List.getElem_cons_zero] ; go_simp ; try with_reducible rfl )
              simp only [Act.put, List.getElem_cons_succ, List.getElem_cons_zero, List.setIfInBounds_toArray, List.set_cons_zero, List.set_cons_succ]
              refine wpR_take 23 (v := ?_) (only2_moves g1 g2) (by decide) (by kernel_rfl) (by kernel_rfl) (by kernel_rfl) (fun _ _ _ h => h) (wantedT (by rfl) ?_) ?_ ; rotate_left ; · ( intro w' hR ; simp only [List.getElem_cons_succ, List.getElem_cons_zero] ; go_simp ; try with_reducible rfl )
              simp only [Act.put, List.getElem_cons_succ, List.getElem_cons_zero, List.setIfInBounds_toArray, List.set_cons_zero, List.set_cons_succ]
              refine wpR_take 24 (v := ?_) (only2_moves g1 g2) (by decide) (by kernel_rfl) (by kernel_rfl) (by kernel_rfl) (fun _ _ _ h => h) (wantedT (by rfl) ?_) ?_ ; rotate_left ; · ( intro w' hR ; simp only [List.getElem_cons_succ, List.getElem_cons_zero] ; go_simp ; try with_reducible rfl )
              simp only [Act.put, List.getElem_cons_succ, List.getElem_cons_zero, List.setIfInBounds_toArray, List.set_cons_zero, List.set_cons_succ]
              refine wpR_take 25 (v := ?_) (only2_moves g1 g2) (by decide) (by kernel_rfl) (by kernel_rfl) (by kernel_rfl) (fun _ _ _ h => h) (wantedT (by rfl) ?_) ?_ ; rotate_left ; · ( intro w' hR ; simp only [List.getElem_cons_succ, List.getElem_cons_zero] ; go_simp ; try with_reducible rfl )
              simp only [Act.put, List.getElem_cons_succ, List.getElem_cons_zero, List.setIfInBounds_toArray, List.set_cons_zero, List.set_cons_succ]
              refine wpR_take 26 (v := ?_) (only2_moves g1 g2) (by decide) (by kernel_rfl) (by kernel_rfl) (by kernel_rfl) (fun _ _ _ h => h) (wantedT (by rfl) ?_) ?_ ; rotate_left ; · ( intro w' hR ; simp only [List.getElem_cons_succ, List.getElem_cons_zero] ; go_simp ; try with_reducible rfl )
              simp only [Act.put, List.getElem_cons_succ, List.getElem_cons_zero, List.setIfInBounds_toArray, List.set_cons_zero, List.set_cons_succ]
              refine wpR_take 27 (v := ?_) (only2_moves g1 g2) (by decide) (by kernel_rfl) (by kernel_rfl) (by kernel_rfl) (fun _ _ _ h => h) (wantedT (by rfl) ?_) ?_ ; rotate_left ; · ( intro w' hR ; simp only [List.getElem_cons_succ, List.getElem_cons_zero] ; go_simp ; try with_reducible rfl )
              simp only [Act.put, List.getElem_cons_succ, List.getElem_cons_zero, List.setIfInBounds_toArray, List.set_cons_zero, List.set_cons_succ]
              refine wpR_take 28 (v := .agg #[.int .u8 (o.kind : Int), .int .i64 o.most, .int .u64 (o.p : Int)]) (only2_moves g1 g2) (by decide) (by kernel_rfl) (by kernel_rfl) (by kernel_rfl) (fun _ _ _ h => h) (wantedT (by rfl) ?_) ?_ ; · ( intro w' hR ; simp only [List.getElem_cons_succ, List.getElem_cons_zero] ; have q0 := ((hx0.drewN kk).only2 hR hg1x hg2x).cell 0 ; have q1 := ((hx0.drewN kk).only2 hR hg1x hg2x).cell 1 ; have q2 := ((hx0.drewN kk).only2 hR hg1x hg2x).cell 2 ; simp at q0 q1 q2 ; go_simp )
              simp only [Act.put, List.getElem_cons_succ, List.getElem_cons_zero, List.setIfInBounds_toArray, List.set_cons_zero, List.set_cons_succ]
              refine wpR_one 29 (only2_moves g1 g2) (by kernel_rfl) ?_
              refine wpS_call (by decide) (by rfl) ((do_any g1 g2 _ bd o l false _ (hw0.drew.drewN _) (hm0.drew'.drewN _) h12 hbd hbd2).mono ?_) (fun _ => by simp only [List.getElem_cons_succ, List.getElem_cons_zero] ; go_simp)
              rintro e w4 ⟨rfl, l4, f4, hw4, hm4, hq4⟩
              refine ⟨_, rfl, hq4, ?_⟩
              simp only [Act.put, List.getElem_cons_succ, List.getElem_cons_zero, List.setIfInBounds_toArray, List.set_cons_zero, List.set_cons_succ]
              refine wpR_take 30 (v := ?_) (only2_moves g1 g2) (by decide) (by kernel_rfl) (by kernel_rfl) (by kernel_rfl) (fun _ _ _ h => h) (wantedT (by rfl) ?_) ?_ ; rotate_left ; · ( intro w' hR ; simp only [List.getElem_cons_succ, List.getElem_cons_zero] ; go_simp ; try with_reducible rfl )
              simp only [Act.put, List.getElem_cons_succ, List.getElem_cons_zero, List.setIfInBounds_toArray, List.set_cons_zero, List.set_cons_succ]
              refine wpR_take 31 (v := ?_) (only2_moves g1 g2) (by decide) (by kernel_rfl) (by kernel_rfl) (by kernel_rfl) (fun _ _ _ h => h) (wantedT (by rfl) ?_) ?_ ; rotate_left ; · ( intro w' hR ; simp only [List.getElem_cons_succ, List.getElem_cons_zero] ; go_simp ; try with_reducible rfl )
              simp only [Act.put, List.getElem_cons_succ, List.getElem_cons_zero, List.setIfInBounds_toArray, List.set_cons_zero, List.set_cons_succ]
              refine wpR_done (by kernel_rfl) ?_
              have hbF := below_only2 (below_drewN' hb0.drew kk) hq4 hb0.size hB1 hB2
              clear hw0 hm0 hbm hb0 hx0 hq4
              go_wp2
              go_roundw
              case rel => exact ⟨j + 1, l4, f4, by omega, by go_num, hw4, hm4, hbF⟩
              case measure => simp [intOf]; omega
            · refine wpS_read (v := .bool false) (only2_moves g1 g2) (by decide) (by rfl) ?_ ?_ ; · ( simp only [List.getElem_cons_succ, List.getElem_cons_zero] ; have q := hbm.drew.cell 1 ; simp at q ; go_simp )
              simp only [Act.put, List.getElem_cons_succ, List.getElem_cons_zero, List.setIfInBounds_toArray, List.set_cons_zero, List.set_cons_succ]
              refine wpR_take 14 (v := ?_) (only2_moves g1 g2) (by decide) (by kernel_rfl) (by kernel_rfl) (by kernel_rfl) (fun _ _ _ h => h) (wantedT (by rfl) ?_) ?_ ; rotate_left ; · ( intro w' hR ; simp only [List.getElem_cons_succ, List.getElem_cons_zero] ; go_simp ; try with_reducible rfl )
              simp only [Act.put, List.getElem_cons_succ, List.getElem_cons_zero, List.setIfInBounds_toArray, List.set_cons_zero, List.set_cons_succ]
              refine wpR_one 9 (only2_moves g1 g2) (by kernel_rfl) ?_
              refine wpS_call (by decide) (by rfl) ((done_any g1 bd l false _ hw0.drew).mono ?_) (fun _ => by simp only [List.getElem_cons_succ, List.getElem_cons_zero] ; go_simp)
              rintro e w3 ⟨rfl, kk, rfl⟩
              rw [HD.out]
              refine ⟨_, rfl, only2_l (grown_drewN' (grown_refl' _ _) _), ?_⟩
              simp only [Act.put, List.getElem_cons_succ, List.getElem_cons_zero, List.setIfInBounds_toArray, List.set_cons_zero, List.set_cons_succ]
              refine wpR_take 15 (v := ?_) (only2_moves g1 g2) (by decide) (by kernel_rfl) (by kernel_rfl) (by kernel_rfl) (fun _ _ _ h => h) (wantedT (by rfl) ?_) ?_ ; rotate_left ; · ( intro w' hR ; simp only [List.getElem_cons_succ, List.getElem_cons_zero] ; go_simp ; try with_reducible rfl )
              simp only [Act.put, List.getElem_cons_succ, List.getElem_cons_zero, List.setIfInBounds_toArray, List.set_cons_zero, List.set_cons_succ]
              refine wpR_take 16 (v := ?_) (only2_moves g1 g2) (by decide) (by kernel_rfl) (by kernel_rfl) (by kernel_rfl) (fun _ _ _ h => h) (wantedT (by rfl) ?_) ?_ ; rotate_left ; · ( intro w' hR ; simp only [List.getElem_cons_succ, List.getElem_cons_zero] ; go_simp ; try with_reducible rfl )
              simp only [Act.put, List.getElem_cons_succ, List.getElem_cons_zero, List.setIfInBounds_toArray, List.set_cons_zero, List.set_cons_succ]
              refine wpR_take 17 (v := ?_) (only2_moves g1 g2) (by decide) (by kernel_rfl) (by kernel_rfl) (by kernel_rfl) (fun _ _ _ h => h) (wantedT (by rfl) ?_) ?_ ; rotate_left ; · ( intro w' hR ; simp only [List.getElem_cons_succ, List.getElem_cons_zero] ; go_simp ; try with_reducible rfl )
              simp only [Act.put, List.getElem_cons_succ, List.getElem_cons_zero, List.setIfInBounds_toArray, List.set_cons_zero, List.set_cons_succ]
              refine wpR_take 18 (v := ?_) (only2_moves g1 g2) (by decide) (by kernel_rfl) (by kernel_rfl) (by kernel_rfl) (fun _ _ _ h => h) (wantedT (by rfl) ?_) ?_ ; rotate_left ; · ( intro w' hR ; simp only [List.getElem_cons_succ, List.getElem_cons_zero] ; go_simp ; try with_reducible rfl )
              simp only [Act.put, List.getElem_cons_succ, List.getElem_cons_zero, List.setIfInBounds_toArray, List.set_cons_zero, List.set_cons_succ]
              refine wpR_one 19 (only2_moves g1 g2) (by kernel_rfl) ?_
              refine wpS_read (v := .slice A2 n2 c2) (only2_moves g1 g2) (by decide) (by rfl) ?_ ?_ ; · ( simp only [List.getElem_cons_succ, List.getElem_cons_zero] ; have q := hbm.drew.cell 0 ; simp at q ; go_simp )
              simp only [Act.put, List.getElem_cons_succ, List.getElem_cons_zero, List.setIfInBounds_toArray, List.set_cons_zero, List.set_cons_succ]
              refine wpR_take 20 (v := ?_) (only2_moves g1 g2) (by decide) (by kernel_rfl) (by kernel_rfl) (by kernel_rfl) (fun _ _ _ h => h) (wantedT (by rfl) ?_) ?_ ; rotate_left ; · ( intro w' hR ; simp only [List.getElem_cons_succ, List.getElem_cons_zero] ; go_simp ; try with_reducible rfl )
              simp only [Act.put, List.getElem_cons_succ, List.getElem_cons_zero, List.setIfInBounds_toArray, List.set_cons_zero, List.set_cons_succ]
              refine wpR_take 21 (v := ?_) (only2_moves g1 g2) (by decide) (by kernel_rfl) (by kernel_rfl) (by kernel_rfl) (fun _ _ _ h => h) (wantedT (by rfl) ?_) ?_ ; rotate_left ; · ( intro w' hR ; simp only [List.getElem_cons_succ, List.getElem_cons_zero] ; go_simp ; try with_reducible rfl )
              simp only [Act.put, List.getElem_cons_succ, List.getElem_cons_zero, List.setIfInBounds_toArray, List.set_cons_zero, List.set_cons_succ]
              refine wpR_take 22 (v := ?_) (only2_moves g1 g2) (by decide) (by kernel_rfl) (by kernel_rfl) (by kernel_rfl) (fun _ _ _ h => h) (wantedT (by rfl) ?_) ?_ ; rotate_left ; · ( intro w' hR ; simp only [List.getElem_cons_succ, List.getElem_cons_zero] ; go_simp ; try with_reducible rfl )
              simp only [Act.put, List.getElem_cons_succ, List.getElem_cons_zero, List.setIfInBounds_toArray, List.set_cons_zero, List.set_cons_succ]
              refine wpR_take 23 (v := ?_) (only2_moves g1 g2) (by decide) (by kernel_rfl) (by kernel_rfl) (by kernel_rfl) (fun _ _ _ h => h) (wantedT (by rfl) ?_) ?_ ; rotate_left ; · ( intro w' hR ; simp only [List.getElem_cons_succ, List.getElem_cons_zero] ; go_simp ; try with_reducible rfl )
              simp only [Act.put, List.getElem_cons_succ, List.getElem_cons_zero, List.setIfInBounds_toArray, List.set_cons_zero, List.set_cons_succ]
              refine wpR_take 24 (v := ?_) (only2_moves g1 g2) (by decide) (by kernel_rfl) (by kernel_rfl) (by kernel_rfl) (fun _ _ _ h => h) (wantedT (by rfl) ?_) ?_ ; rotate_left ; · ( intro w' hR ; simp only [List.getElem_cons_succ, List.getElem_cons_zero] ; go_simp ; try with_reducible rfl )
              simp only [Act.put, List.getElem_cons_succ, List.getElem_cons_zero, List.setIfInBounds_toArray, List.set_cons_zero, List.set_cons_succ]
              refine wpR_take 25 (v := ?_) (only2_moves g1 g2) (by decide) (by kernel_rfl) (by kernel_rfl) (by kernel_rfl) (fun _ _ _ h => h) (wantedT (by rfl) ?_) ?_ ; rotate_left ; · ( intro w' hR ; simp only [List.getElem_cons_succ, List.getElem_cons_zero] ; go_simp ; try with_reducible rfl )
              simp only [Act.put, List.getElem_cons_succ, List.getElem_cons_zero, List.setIfInBounds_toArray, List.set_cons_zero, List.set_cons_succ]
              refine wpR_take 26 (v := ?_) (only2_moves g1 g2) (by decide) (by kernel_rfl) (by kernel_rfl) (by kernel_rfl) (fun _ _ _ h => h) (wantedT (by rfl) ?_) ?_ ; rotate_left ; · ( intro w' hR ; simp only [List.getElem_cons_succ, List.getElem_cons_zero] ; go_simp ; try with_reducible rfl )
              simp only [Act.put, List.getElem_cons_succ, List.getElem_cons_zero, List.setIfInBounds_toArray, List.set_cons_zero, List.set_cons_succ]
              refine wpR_take 27 (v := ?_) (only2_moves g1 g2) (by decide) (by kernel_rfl) (by kernel_rfl) (by kernel_rfl) (fun _ _ _ h => h) (wantedT (by rfl) ?_) ?_ ; rotate_left ; · ( intro w' hR ; simp only [List.getElem_cons_succ, List.getElem_cons_zero] ; go_simp ; try with_reducible rfl )
              simp only [Act.put, List.getElem_cons_succ, List.getElem_cons_zero, List.setIfInBounds_toArray, List.set_cons_zero, List.set_cons_succ]
              refine wpR_take 28 (v := .agg #[.int .u8 (o.kind : Int), .int .i64 o.most, .int .u64 (o.p : Int)]) (only2_moves g1 g2) (by decide) (by kernel_rfl) (by kernel_rfl) (by kernel_rfl) (fun _ _ _ h => h) (wantedT (by rfl) ?_) ?_ ; · ( intro w' hR ; simp only [List.getElem_cons_succ, List.getElem_cons_zero] ; have q0 := ((hx0.drewN kk).only2 hR hg1x hg2x).cell 0 ; have q1 := ((hx0.drewN kk).only2 hR hg1x hg2x).cell 1 ; have q2 := ((hx0.drewN kk).only2 hR hg1x hg2x).cell 2 ; simp at q0 q1 q2 ; go_simp )
              simp only [Act.put, List.getElem_cons_succ, List.getElem_cons_zero, List.setIfInBounds_toArray, List.set_cons_zero, List.set_cons_succ]
              refine wpR_one 29 (only2_moves g1 g2) (by kernel_rfl) ?_
              refine wpS_call (by decide) (by rfl) ((do_any g1 g2 _ bd o l false _ (hw0.drew.drewN _) (hm0.drew'.drewN _) h12 hbd hbd2).mono ?_) (fun _ => by simp only [List.getElem_cons_succ, List.getElem_cons_zero] ; go_simp)
              rintro e w4 ⟨rfl, l4, f4, hw4, hm4, hq4⟩
              refine ⟨_, rfl, hq4, ?_⟩
              simp only [Act.put, List.getElem_cons_succ, List.getElem_cons_zero, List.setIfInBounds_toArray, List.set_cons_zero, List.set_cons_succ]
              refine wpR_take 30 (v := ?_) (only2_moves g1 g2) (by decide) (by kernel_rfl) (by kernel_rfl) (by kernel_rfl) (fun _ _ _ h => h) (wantedT (by rfl) ?_) ?_ ; rotate_left ; · ( intro w' hR ; simp only [List.getElem_cons_succ, List.getElem_cons_zero] ; go_simp ; try with_reducible rfl )
              simp only [Act.put, List.getElem_cons_succ, List.getElem_cons_zero, List.setIfInBounds_toArray, List.set_cons_zero, List.set_cons_succ]
              refine wpR_take 31 (v := ?_) (only2_moves g1 g2) (by decide) (by kernel_rfl) (by kernel_rfl) (by kernel_rfl) (fun _ _ _ h => h) (wantedT (by rfl) ?_) ?_ ; rotate_left ; · ( intro w' hR ; simp only [List.getElem_cons_succ, List.getElem_cons_zero] ; go_simp ; try with_reducible rfl )
              simp only [Act.put, List.getElem_cons_succ, List.getElem_cons_zero, List.setIfInBounds_toArray, List.set_cons_zero, List.set_cons_succ]
              refine wpR_done (by kernel_rfl) ?_
              have hbF := below_only2 (below_drewN' hb0.drew kk) hq4 hb0.size hB1 hB2
              clear hw0 hm0 hbm hb0 hx0 hq4
              go_wp2
              go_roundw
              case rel => exact ⟨j + 1, l4, f4, by omega, by go_num, hw4, hm4, hbF⟩
              case measure => simp [intOf]; omega
        · have HLe := Lib.hid hle
          clear hle
          have HD : Hid ((!false && l.isEmpty) = false) := by show _ = _ ; have := HLe.out ; cases l with | nil => exact absurd rfl this | cons x r => rfl
          have hz : ((n2 : Int) == 0) = false := by rw [beq_eq_false_iff_ne] ; have := HLn.out ; have h3 := HLe.out ; intro h4 ; apply h3 ; apply List.eq_nil_of_length_eq_zero ; omega
          go_wp2_with fail
          refine wpR_begin (Only2 g1 g2) (by kernel_rfl) ?_
          refine wpR_take 0 (v := ?_) (only2_moves g1 g2) (by decide) (by kernel_rfl) (by kernel_rfl) (by kernel_rfl) (fun _ _ _ h => h) (wantedT (by rfl) ?_) ?_ ; rotate_left ; · ( intro w' hR ; simp only [List.getElem_cons_succ, List.getElem_cons_zero] ; go_simp ; try with_reducible rfl )
          simp only [Act.put, List.getElem_cons_succ, List.getElem_cons_zero, List.setIfInBounds_toArray, List.set_cons_zero, List.set_cons_succ]
          refine wpR_take 2 (v := ?_) (only2_moves g1 g2) (by decide) (by kernel_rfl) (by kernel_rfl) (by kernel_rfl) (fun _ _ _ h => h) (wantedT (by rfl) ?_) ?_ ; rotate_left ; · ( intro w' hR ; simp only [List.getElem_cons_succ, List.getElem_cons_zero] ; go_simp ; try with_reducible rfl )
          simp only [Act.put, List.getElem_cons_succ, List.getElem_cons_zero, List.setIfInBounds_toArray, List.set_cons_zero, List.set_cons_succ]
          refine wpR_take 3 (v := ?_) (only2_moves g1 g2) (by decide) (by kernel_rfl) (by kernel_rfl) (by kernel_rfl) (fun _ _ _ h => h) (wantedT (by rfl) ?_) ?_ ; rotate_left ; · ( intro w' hR ; simp only [List.getElem_cons_succ, List.getElem_cons_zero] ; go_simp ; try with_reducible rfl )
          simp only [Act.put, List.getElem_cons_succ, List.getElem_cons_zero, List.setIfInBounds_toArray, List.set_cons_zero, List.set_cons_succ]
          refine wpR_take 4 (v := ?_) (only2_moves g1 g2) (by decide) (by kernel_rfl) (by kernel_rfl) (by kernel_rfl) (fun _ _ _ h => h) (wantedT (by rfl) ?_) ?_ ; rotate_left ; · ( intro w' hR ; simp only [List.getElem_cons_succ, List.getElem_cons_zero] ; go_simp ; try with_reducible rfl )
          simp only [Act.put, List.getElem_cons_succ, List.getElem_cons_zero, List.setIfInBounds_toArray, List.set_cons_zero, List.set_cons_succ]
          refine wpR_two 1 5 (only2_moves g1 g2) (by kernel_rfl) ?_ ?_
          · refine wpS_call (by decide) (by rfl) ((failed_any g1 bd l false _ hw0.drew).mono ?_) (fun _ => by simp only [List.getElem_cons_succ, List.getElem_cons_zero] ; go_simp)
            rintro e w2 ⟨rfl, rfl⟩
            refine ⟨_, rfl, (only2_moves g1 g2).refl _, ?_⟩
            simp only [Act.put, List.getElem_cons_succ, List.getElem_cons_zero, List.setIfInBounds_toArray, List.set_cons_zero, List.set_cons_succ]
            refine wpR_one 5 (only2_moves g1 g2) (by kernel_rfl) ?_
            refine wpS_read (v := .bool false) (only2_moves g1 g2) (by decide) (by rfl) ?_ ?_ ; · ( simp only [List.getElem_cons_succ, List.getElem_cons_zero] ; have q := hbm.drew.cell 1 ; simp at q ; go_simp )
            simp only [Act.put, List.getElem_cons_succ, List.getElem_cons_zero, List.setIfInBounds_toArray, List.set_cons_zero, List.set_cons_succ]
            refine wpR_take 6 (v := ?_) (only2_moves g1 g2) (by decide) (by kernel_rfl) (by kernel_rfl) (by kernel_rfl) (fun _ _ _ h => h) (wantedT (by rfl) ?_) ?_ ; rotate_left ; · ( intro w' hR ; simp only [List.getElem_cons_succ, List.getElem_cons_zero] ; go_simp ; try with_reducible rfl )
            simp only [Act.put, List.getElem_cons_succ, List.getElem_cons_zero, List.setIfInBounds_toArray, List.set_cons_zero, List.set_cons_succ]
            refine wpR_take 7 (v := ?_) (only2_moves g1 g2) (by decide) (by kernel_rfl) (by kernel_rfl) (by kernel_rfl) (fun _ _ _ h => h) (wantedT (by rfl) ?_) ?_ ; rotate_left ; · ( intro w' hR ; simp only [List.getElem_cons_succ, List.getElem_cons_zero] ; go_simp ; try with_reducible rfl )
            simp only [Act.put, List.getElem_cons_succ, List.getElem_cons_zero, List.setIfInBounds_toArray, List.set_cons_zero, List.set_cons_succ]
            refine wpR_take 8 (v := ?_) (only2_moves g1 g2) (by decide) (by kernel_rfl) (by kernel_rfl) (by kernel_rfl) (fun _ _ _ h => h) (wantedT (by rfl) ?_) ?_ ; rotate_left ; · ( intro w' hR ; simp only [List.getElem_cons_succ, List.getElem_cons_zero] ; go_simp ; try with_reducible rfl )
            simp only [Act.put, List.getElem_cons_succ, List.getElem_cons_zero, List.setIfInBounds_toArray, List.set_cons_zero, List.set_cons_succ]
            refine wpR_take 10 (v := ?_) (only2_moves g1 g2) (by decide) (by kernel_rfl) (by kernel_rfl) (by kernel_rfl) (fun _ _ _ h => h) (wantedT (by rfl) ?_) ?_ ; rotate_left ; · ( intro w' hR ; simp only [List.getElem_cons_succ, List.getElem_cons_zero] ; go_simp ; try with_reducible rfl )
            simp only [Act.put, List.getElem_cons_succ, List.getElem_cons_zero, List.setIfInBounds_toArray, List.set_cons_zero, List.set_cons_succ]
            refine wpR_take 11 (v := ?_) (only2_moves g1 g2) (by decide) (by kernel_rfl) (by kernel_rfl) (by kernel_rfl) (fun _ _ _ h => h) (wantedT (by rfl) ?_) ?_ ; rotate_left ; · ( intro w' hR ; simp only [List.getElem_cons_succ, List.getElem_cons_zero] ; go_simp ; try with_reducible rfl )
            simp only [Act.put, List.getElem_cons_succ, List.getElem_cons_zero, List.setIfInBounds_toArray, List.set_cons_zero, List.set_cons_succ]
            refine wpR_take 12 (v := ?_) (only2_moves g1 g2) (by decide) (by kernel_rfl) (by kernel_rfl) (by kernel_rfl) (fun _ _ _ h => h) (wantedT (by rfl) ?_) ?_ ; rotate_left ; · ( intro w' hR ; simp only [List.getElem_cons_succ, List.getElem_cons_zero] ; go_simp ; try with_reducible rfl )
            simp only [Act.put, List.getElem_cons_succ, List.getElem_cons_zero, List.setIfInBounds_toArray, List.set_cons_zero, List.set_cons_succ]
            refine wpR_two 9 13 (only2_moves g1 g2) (by kernel_rfl) ?_ ?_
            · refine wpS_call (by decide) (by rfl) ((done_any g1 bd l false _ hw0.drew).mono ?_) (fun _ => by simp only [List.getElem_cons_succ, List.getElem_cons_zero] ; go_simp)
              rintro e w3 ⟨rfl, kk, rfl⟩
              rw [HD.out]
              refine ⟨_, rfl, only2_l (grown_drewN' (grown_refl' _ _) _), ?_⟩
              simp only [Act.put, List.getElem_cons_succ, List.getElem_cons_zero, List.setIfInBounds_toArray, List.set_cons_zero, List.set_cons_succ]
              refine wpR_one 13 (only2_moves g1 g2) (by kernel_rfl) ?_
              refine wpS_read (v := .bool false) (only2_moves g1 g2) (by decide) (by rfl) ?_ ?_ ; · ( simp only [List.getElem_cons_succ, List.getElem_cons_zero] ; have q := hbm.drew.cell 1 ; simp at q ; go_simp )
              simp only [Act.put, List.getElem_cons_succ, List.getElem_cons_zero, List.setIfInBounds_toArray, List.set_cons_zero, List.set_cons_succ]
              refine wpR_take 14 (v := ?_) (only2_moves g1 g2) (by decide) (by kernel_rfl) (by kernel_rfl) (by kernel_rfl) (fun _ _ _ h => h) (wantedT (by rfl) ?_) ?_ ; rotate_left ; · ( intro w' hR ; simp only [List.getElem_cons_succ, List.getElem_cons_zero] ; go_simp ; try with_reducible rfl )
              simp only [Act.put, List.getElem_cons_succ, List.getElem_cons_zero, List.setIfInBounds_toArray, List.set_cons_zero, List.set_cons_succ]
              refine wpR_take 15 (v := ?_) (only2_moves g1 g2) (by decide) (by kernel_rfl) (by kernel_rfl) (by kernel_rfl) (fun _ _ _ h => h) (wantedT (by rfl) ?_) ?_ ; rotate_left ; · ( intro w' hR ; simp only [List.getElem_cons_succ, List.getElem_cons_zero] ; go_simp ; try with_reducible rfl )
              simp only [Act.put, List.getElem_cons_succ, List.getElem_cons_zero, List.setIfInBounds_toArray, List.set_cons_zero, List.set_cons_succ]
              refine wpR_take 16 (v := ?_) (only2_moves g1 g2) (by decide) (by kernel_rfl) (by kernel_rfl) (by kernel_rfl) (fun _ _ _ h => h) (wantedT (by rfl) ?_) ?_ ; rotate_left ; · ( intro w' hR ; simp only [List.getElem_cons_succ, List.getElem_cons_zero] ; go_simp ; try with_reducible rfl )
              simp only [Act.put, List.getElem_cons_succ, List.getElem_cons_zero, List.setIfInBounds_toArray, List.set_cons_zero, List.set_cons_succ]
              refine wpR_take 17 (v := ?_) (only2_moves g1 g2) (by decide) (by kernel_rfl) (by kernel_rfl) (by kernel_rfl) (fun _ _ _ h => h) (wantedT (by rfl) ?_) ?_ ; rotate_left ; · ( intro w' hR ; simp only [List.getElem_cons_succ, List.getElem_cons_zero] ; go_simp ; try with_reducible rfl )
              simp only [Act.put, List.getElem_cons_succ, List.getElem_cons_zero, List.setIfInBounds_toArray, List.set_cons_zero, List.set_cons_succ]
              refine wpR_take 18 (v := ?_) (only2_moves g1 g2) (by decide) (by kernel_rfl) (by kernel_rfl) (by kernel_rfl) (fun _ _ _ h => h) (wantedT (by rfl) ?_) ?_ ; rotate_left ; · ( intro w' hR ; simp only [List.getElem_cons_succ, List.getElem_cons_zero] ; go_simp ; try with_reducible rfl )
              simp only [Act.put, List.getElem_cons_succ, List.getElem_cons_zero, List.setIfInBounds_toArray, List.set_cons_zero, List.set_cons_succ]
              refine wpR_one 19 (only2_moves g1 g2) (by kernel_rfl) ?_
              refine wpS_read (v := .slice A2 n2 c2) (only2_moves g1 g2) (by decide) (by rfl) ?_ ?_ ; · ( simp only [List.getElem_cons_succ, List.getElem_cons_zero] ; have q := hbm.drew.cell 0 ; simp at q ; go_simp )
              simp only [Act.put, List.getElem_cons_succ, List.getElem_cons_zero, List.setIfInBounds_toArray, List.set_cons_zero, List.set_cons_succ]
              refine wpR_take 20 (v := ?_) (only2_moves g1 g2) (by decide) (by kernel_rfl) (by kernel_rfl) (by kernel_rfl) (fun _ _ _ h => h) (wantedT (by rfl) ?_) ?_ ; rotate_left ; · ( intro w' hR ; simp only [List.getElem_cons_succ, List.getElem_cons_zero] ; go_simp ; try with_reducible rfl )
              simp only [Act.put, List.getElem_cons_succ, List.getElem_cons_zero, List.setIfInBounds_toArray, List.set_cons_zero, List.set_cons_succ]
              refine wpR_take 21 (v := ?_) (only2_moves g1 g2) (by decide) (by kernel_rfl) (by kernel_rfl) (by kernel_rfl) (fun _ _ _ h => h) (wantedT (by rfl) ?_) ?_ ; rotate_left ; · ( intro w' hR ; simp only [List.getElem_cons_succ, List.getElem_cons_zero] ; go_simp ; try with_reducible rfl )
              simp only [Act.put, List.getElem_cons_succ, List.getElem_cons_zero, List.setIfInBounds_toArray, List.set_cons_zero, List.set_cons_succ]
              refine wpR_take 22 (v := ?_) (only2_moves g1 g2) (by decide) (by kernel_rfl) (by kernel_rfl) (by kernel_rfl) (fun _ _ _ h => h) (wantedT (by rfl) ?_) ?_ ; rotate_left ; · ( intro w' hR ; simp only [List.getElem_cons_succ, List.getElem_cons_zero] ; go_simp ; try with_reducible rfl )
              simp only [Act.put, List.getElem_cons_succ, List.getElem_cons_zero, List.setIfInBounds_toArray, List.set_cons_zero, List.set_cons_succ]
              refine wpR_take 23 (v := ?_) (only2_moves g1 g2) (by decide) (by kernel_rfl) (by kernel_rfl) (by kernel_rfl) (fun _ _ _ h => h) (wantedT (by rfl) ?_) ?_ ; rotate_left ; · ( intro w' hR ; simp only [List.getElem_cons_succ, List.getElem_cons_zero] ; go_simp ; try with_reducible rfl )
              simp only [Act.put, List.getElem_cons_succ, List.getElem_cons_zero, List.setIfInBounds_toArray, List.set_cons_zero, List.set_cons_succ]
              refine wpR_take 24 (v := ?_) (only2_moves g1 g2) (by decide) (by kernel_rfl) (by kernel_rfl) (by kernel_rfl) (fun _ _ _ h => h) (wantedT (by rfl) ?_) ?_ ; rotate_left ; · ( intro w' hR ; simp only [List.getElem_cons_succ, List.getElem_cons_zero] ; go_simp ; try with_reducible rfl )
              simp only [Act.put, List.getElem_cons_succ, List.getElem_cons_zero, List.setIfInBounds_toArray, List.set_cons_zero, List.set_cons_succ]
              refine wpR_take 25 (v := ?_) (only2_moves g1 g2) (by decide) (by kernel_rfl) (by kernel_rfl) (by kernel_rfl) (fun _ _ _ h => h) (wantedT (by rfl) ?_) ?_ ; rotate_left ; · ( intro w' hR ; simp only [List.getElem_cons_succ, List.getElem_cons_zero] ; go_simp ; try with_reducible rfl )
              simp only [Act.put, List.getElem_cons_succ, List.getElem_cons_zero, List.setIfInBounds_toArray, List.set_cons_zero, List.set_cons_succ]
              refine wpR_take 26 (v := ?_) (only2_moves g1 g2) (by decide) (by kernel_rfl) (by kernel_rfl) (by kernel_rfl) (fun _ _ _ h => h) (wantedT (by rfl) ?_) ?_ ; rotate_left ; · ( intro w' hR ; simp only [List.getElem_cons_succ, List.getElem_cons_zero] ; go_simp ; try with_reducible rfl )
              simp only [Act.put, List.getElem_cons_succ, List.getElem_cons_zero, List.setIfInBounds_toArray, List.set_cons_zero, List.set_cons_succ]
              refine wpR_take 27 (v := ?_) (only2_moves g1 g2) (by decide) (by kernel_rfl) (by kernel_rfl) (by kernel_rfl) (fun _ _ _ h => h) (wantedT (by rfl) ?_) ?_ ; rotate_left ; · ( intro w' hR ; simp only [List.getElem_cons_succ, List.getElem_cons_zero] ; go_simp ; try with_reducible rfl )
              simp only [Act.put, List.getElem_cons_succ, List.getElem_cons_zero, List.setIfInBounds_toArray, List.set_cons_zero, List.set_cons_succ]
              refine wpR_take 28 (v := .agg #[.int .u8 (o.kind : Int), .int .i64 o.most, .int .u64 (o.p : Int)]) (only2_moves g1 g2) (by decide) (by kernel_rfl) (by kernel_rfl) (by kernel_rfl) (fun _ _ _ h => h) (wantedT (by rfl) ?_) ?_ ; · ( intro w' hR ; simp only [List.getElem_cons_succ, List.getElem_cons_zero] ; have q0 := ((hx0.drewN kk).only2 hR hg1x hg2x).cell 0 ; have q1 := ((hx0.drewN kk).only2 hR hg1x hg2x).cell 1 ; have q2 := ((hx0.drewN kk).only2 hR hg1x hg2x).cell 2 ; simp at q0 q1 q2 ; go_simp )
              simp only [Act.put, List.getElem_cons_succ, List.getElem_cons_zero, List.setIfInBounds_toArray, List.set_cons_zero, List.set_cons_succ]
              refine wpR_one 29 (only2_moves g1 g2) (by kernel_rfl) ?_
              refine wpS_call (by decide) (by rfl) ((do_any g1 g2 _ bd o l false _ (hw0.drew.drewN _) (hm0.drew'.drewN _) h12 hbd hbd2).mono ?_) (fun _ => by simp only [List.getElem_cons_succ, List.getElem_cons_zero] ; go_simp)
              rintro e w4 ⟨rfl, l4, f4, hw4, hm4, hq4⟩
              refine ⟨_, rfl, hq4, ?_⟩
              simp only [Act.put, List.getElem_cons_succ, List.getElem_cons_zero, List.setIfInBounds_toArray, List.set_cons_zero, List.set_cons_succ]
              refine wpR_take 30 (v := ?_) (only2_moves g1 g2) (by decide) (by kernel_rfl) (by kernel_rfl) (by kernel_rfl) (fun _ _ _ h => h) (wantedT (by rfl) ?_) ?_ ; rotate_left ; · ( intro w' hR ; simp only [List.getElem_cons_succ, List.getElem_cons_zero] ; go_simp ; try with_reducible rfl )
              simp only [Act.put, List.getElem_cons_succ, List.getElem_cons_zero, List.setIfInBounds_toArray, List.set_cons_zero, List.set_cons_succ]
              refine wpR_take 31 (v := ?_) (only2_moves g1 g2) (by decide) (by kernel_rfl) (by kernel_rfl) (by kernel_rfl) (fun _ _ _ h => h) (wantedT (by rfl) ?_) ?_ ; rotate_left ; · ( intro w' hR ; simp only [List.getElem_cons_succ, List.getElem_cons_zero] ; go_simp ; try with_reducible rfl )
              simp only [Act.put, List.getElem_cons_succ, List.getElem_cons_zero, List.setIfInBounds_toArray, List.set_cons_zero, List.set_cons_succ]
              refine wpR_done (by kernel_rfl) ?_
              have hbF := below_only2 (below_drewN' hb0.drew kk) hq4 hb0.size hB1 hB2
              clear hw0 hm0 hbm hb0 hx0 hq4
              go_wp2
              go_roundw
              case rel => exact ⟨j + 1, l4, f4, by omega, by go_num, hw4, hm4, hbF⟩
              case measure => simp [intOf]; omega
            · refine wpS_read (v := .bool false) (only2_moves g1 g2) (by decide) (by rfl) ?_ ?_ ; · ( simp only [List.getElem_cons_succ, List.getElem_cons_zero] ; have q := hbm.drew.cell 1 ; simp at q ; go_simp )
              simp only [Act.put, List.getElem_cons_succ, List.getElem_cons_zero, List.setIfInBounds_toArray, List.set_cons_zero, List.set_cons_succ]
              refine wpR_take 14 (v := ?_) (only2_moves g1 g2) (by decide) (by kernel_rfl) (by kernel_rfl) (by kernel_rfl) (fun _ _ _ h => h) (wantedT (by rfl) ?_) ?_ ; rotate_left ; · ( intro w' hR ; simp only [List.getElem_cons_succ, List.getElem_cons_zero] ; go_simp ; try with_reducible rfl )
              simp only [Act.put, List.getElem_cons_succ, List.getElem_cons_zero, List.setIfInBounds_toArray, List.set_cons_zero, List.set_cons_succ]
              refine wpR_one 9 (only2_moves g1 g2) (by kernel_rfl) ?_
              refine wpS_call (by decide) (by rfl) ((done_any g1 bd l false _ hw0.drew).mono ?_) (fun _ => by simp only [List.getElem_cons_succ, List.getElem_cons_zero] ; go_simp)
              rintro e w3 ⟨rfl, kk, rfl⟩
              rw [HD.out]
              refine ⟨_, rfl, only2_l (grown_drewN' (grown_refl' _ _) _), ?_⟩
              simp only [Act.put, List.getElem_cons_succ, List.getElem_cons_zero, List.setIfInBounds_toArray, List.set_cons_zero, List.set_cons_succ]
              refine wpR_take 15 (v := ?_) (only2_moves g1 g2) (by decide) (by kernel_rfl) (by kernel_rfl) (by kernel_rfl) (fun _ _ _ h => h) (wantedT (by rfl) ?_) ?_ ; rotate_left ; · ( intro w' hR ; simp only [List.getElem_cons_succ, List.getElem_cons_zero] ; go_simp ; try with_reducible rfl )
              simp only [Act.put, List.getElem_cons_succ, List.getElem_cons_zero, List.setIfInBounds_toArray, List.set_cons_zero, List.set_cons_succ]
              refine wpR_take 16 (v := ?_) (only2_moves g1 g2) (by decide) (by kernel_rfl) (by kernel_rfl) (by kernel_rfl) (fun _ _ _ h => h) (wantedT (by rfl) ?_) ?_ ; rotate_left ; · ( intro w' hR ; simp only [List.getElem_cons_succ, List.getElem_cons_zero] ; go_simp ; try with_reducible rfl )
              simp only [Act.put, List.getElem_cons_succ, List.getElem_cons_zero, List.setIfInBounds_toArray, List.set_cons_zero, List.set_cons_succ]
              refine wpR_take 17 (v := ?_) (only2_moves g1 g2) (by decide) (by kernel_rfl) (by kernel_rfl) (by kernel_rfl) (fun _ _ _ h => h) (wantedT (by rfl) ?_) ?_ ; rotate_left ; · ( intro w' hR ; simp only [List.getElem_cons_succ, List.getElem_cons_zero] ; go_simp ; try with_reducible rfl )
              simp only [Act.put, List.getElem_cons_succ, List.getElem_cons_zero, List.setIfInBounds_toArray, List.set_cons_zero, List.set_cons_succ]
              refine wpR_take 18 (v := ?_) (only2_moves g1 g2) (by decide) (by kernel_rfl) (by kernel_rfl) (by kernel_rfl) (fun _ _ _ h => h) (wantedT (by rfl) ?_) ?_ ; rotate_left ; · ( intro w' hR ; simp only [List.getElem_cons_succ, List.getElem_cons_zero] ; go_simp ; try with_reducible rfl )
              simp only [Act.put, List.getElem_cons_succ, List.getElem_cons_zero, List.setIfInBounds_toArray, List.set_cons_zero, List.set_cons_succ]
              refine wpR_one 19 (only2_moves g1 g2) (by kernel_rfl) ?_
              refine wpS_read (v := .slice A2 n2 c2) (only2_moves g1 g2) (by decide) (by rfl) ?_ ?_ ; · ( simp only [List.getElem_cons_succ, List.getElem_cons_zero] ; have q := hbm.drew.cell 0 ; simp at q ; go_simp )
              simp only [Act.put, List.getElem_cons_succ, List.getElem_cons_zero, List.setIfInBounds_toArray, List.set_cons_zero, List.set_cons_succ]
              refine wpR_take 20 (v := ?_) (only2_moves g1 g2) (by decide) (by kernel_rfl) (by kernel_rfl) (by kernel_rfl) (fun _ _ _ h => h) (wantedT (by rfl) ?_) ?_ ; rotate_left ; · ( intro w' hR ; simp only [List.getElem_cons_succ, List.getElem_cons_zero] ; go_simp ; try with_reducible rfl )
              simp only [Act.put, List.getElem_cons_succ, List.getElem_cons_zero, List.setIfInBounds_toArray, List.set_cons_zero, List.set_cons_succ]
              refine wpR_take 21 (v := ?_) (only2_moves g1 g2) (by decide) (by kernel_rfl) (by kernel_rfl) (by kernel_rfl) (fun _ _ _ h => h) (wantedT (by rfl) ?_) ?_ ; rotate_left ; · ( intro w' hR ; simp only [List.getElem_cons_succ, List.getElem_cons_zero] ; go_simp ; try with_reducible rfl )
              simp only [Act.put, List.getElem_cons_succ, List.getElem_cons_zero, List.setIfInBounds_toArray, List.set_cons_zero, List.set_cons_succ]
              refine wpR_take 22 (v := ?_) (only2_moves g1 g2) (by decide) (by kernel_rfl) (by kernel_rfl) (by kernel_rfl) (fun _ _ _ h => h) (wantedT (by rfl) ?_) ?_ ; rotate_left ; · ( intro w' hR ; simp only [List.getElem_cons_succ, List.getElem_cons_zero] ; go_simp ; try with_reducible rfl )
              simp only [Act.put, List.getElem_cons_succ, List.getElem_cons_zero, List.setIfInBounds_toArray, List.set_cons_zero, List.set_cons_succ]
              refine wpR_take 23 (v := ?_) (only2_moves g1 g2) (by decide) (by kernel_rfl) (by kernel_rfl) (by kernel_rfl) (fun _ _ _ h => h) (wantedT (by rfl) ?_) ?_ ; rotate_left ; · ( intro w' hR ; simp only [List.getElem_cons_succ, List.getElem_cons_zero] ; go_simp ; try with_reducible rfl )
              simp only [Act.put, List.getElem_cons_succ, List.getElem_cons_zero, List.setIfInBounds_toArray, List.set_cons_zero, List.set_cons_succ]
              refine wpR_take 24 (v := ?_) (only2_moves g1 g2) (by decide) (by kernel_rfl) (by kernel_rfl) (by kernel_rfl) (fun _ _ _ h => h) (wantedT (by rfl) ?_) ?_ ; rotate_left ; · ( intro w' hR ; simp only [List.getElem_cons_succ, List.getElem_cons_zero] ; go_simp ; try with_reducible rfl )
              simp only [Act.put, List.getElem_cons_succ, List.getElem_cons_zero, List.setIfInBounds_toArray, List.set_cons_zero, List.set_cons_succ]
              refine wpR_take 25 (v := ?_) (only2_moves g1 g2) (by decide) (by kernel_rfl) (by kernel_rfl) (by kernel_rfl) (fun _ _ _ h => h) (wantedT (by rfl) ?_) ?_ ; rotate_left ; · ( intro w' hR ; simp only [List.getElem_cons_succ, List.getElem_cons_zero] ; go_simp ; try with_reducible rfl )
              simp only [Act.put, List.getElem_cons_succ, List.getElem_cons_zero, List.setIfInBounds_toArray, List.set_cons_zero, List.set_cons_succ]
              refine wpR_take 26 (v := ?_) (only2_moves g1 g2) (by decide) (by kernel_rfl) (by kernel_rfl) (by kernel_rfl) (fun _ _ _ h => h) (wantedT (by rfl) ?_) ?_ ; rotate_left ; · ( intro w' hR ; simp only [List.getElem_cons_succ, List.getElem_cons_zero] ; go_simp ; try with_reducible rfl )
              simp only [Act.put, List.getElem_cons_succ, List.getElem_cons_zero, List.setIfInBounds_toArray, List.set_cons_zero, List.set_cons_succ]
              refine wpR_take 27 (v := ?_) (only2_moves g1 g2) (by decide) (by kernel_rfl) (by kernel_rfl) (by kernel_rfl) (fun _ _ _ h => h) (wantedT (by rfl) ?_) ?_ ; rotate_left ; · ( intro w' hR ; simp only [List.getElem_cons_succ, List.getElem_cons_zero] ; go_simp ; try with_reducible rfl )
              simp only [Act.put, List.getElem_cons_succ, List.getElem_cons_zero, List.setIfInBounds_toArray, List.set_cons_zero, List.set_cons_succ]
              refine wpR_take 28 (v := .agg #[.int .u8 (o.kind : Int), .int .i64 o.most, .int .u64 (o.p : Int)]) (only2_moves g1 g2) (by decide) (by kernel_rfl) (by kernel_rfl) (by kernel_rfl) (fun _ _ _ h => h) (wantedT (by rfl) ?_) ?_ ; · ( intro w' hR ; simp only [List.getElem_cons_succ, List.getElem_cons_zero] ; have q0 := ((hx0.drewN kk).only2 hR hg1x hg2x).cell 0 ; have q1 := ((hx0.drewN kk).only2 hR hg1x hg2x).cell 1 ; have q2 := ((hx0.drewN kk).only2 hR hg1x hg2x).cell 2 ; simp at q0 q1 q2 ; go_simp )
              simp only [Act.put, List.getElem_cons_succ, List.getElem_cons_zero, List.setIfInBounds_toArray, List.set_cons_zero, List.set_cons_succ]
              refine wpR_one 29 (only2_moves g1 g2) (by kernel_rfl) ?_
              refine wpS_call (by decide) (by rfl) ((do_any g1 g2 _ bd o l false _ (hw0.drew.drewN _) (hm0.drew'.drewN _) h12 hbd hbd2).mono ?_) (fun _ => by simp only [List.getElem_cons_succ, List.getElem_cons_zero] ; go_simp)
              rintro e w4 ⟨rfl, l4, f4, hw4, hm4, hq4⟩
              refine ⟨_, rfl, hq4, ?_⟩
              simp only [Act.put, List.getElem_cons_succ, List.getElem_cons_zero, List.setIfInBounds_toArray, List.set_cons_zero, List.set_cons_succ]
              refine wpR_take 30 (v := ?_) (only2_moves g1 g2) (by decide) (by kernel_rfl) (by kernel_rfl) (by kernel_rfl) (fun _ _ _ h => h) (wantedT (by rfl) ?_) ?_ ; rotate_left ; · ( intro w' hR ; simp only [List.getElem_cons_succ, List.getElem_cons_zero] ; go_simp ; try with_reducible rfl )
              simp only [Act.put, List.getElem_cons_succ, List.getElem_cons_zero, List.setIfInBounds_toArray, List.set_cons_zero, List.set_cons_succ]
              refine wpR_take 31 (v := ?_) (only2_moves g1 g2) (by decide) (by kernel_rfl) (by kernel_rfl) (by kernel_rfl) (fun _ _ _ h => h) (wantedT (by rfl) ?_) ?_ ; rotate_left ; · ( intro w' hR ; simp only [List.getElem_cons_succ, List.getElem_cons_zero] ; go_simp ; try with_reducible rfl )
              simp only [Act.put, List.getElem_cons_succ, List.getElem_cons_zero, List.setIfInBounds_toArray, List.set_cons_zero, List.set_cons_succ]
              refine wpR_done (by kernel_rfl) ?_
              have hbF := below_only2 (below_drewN' hb0.drew kk) hq4 hb0.size hB1 hB2
              clear hw0 hm0 hbm hb0 hx0 hq4
              go_wp2
              go_roundw
              case rel => exact ⟨j + 1, l4, f4, by omega, by go_num, hw4, hm4, hbF⟩
              case measure => simp [intOf]; omega
          · refine wpS_read (v := .bool false) (only2_moves g1 g2) (by decide) (by rfl) ?_ ?_ ; · ( simp only [List.getElem_cons_succ, List.getElem_cons_zero] ; have q := hbm.drew.cell 1 ; simp at q ; go_simp )
            simp only [Act.put, List.getElem_cons_succ, List.getElem_cons_zero, List.setIfInBounds_toArray, List.set_cons_zero, List.set_cons_succ]
            refine wpR_one 1 (only2_moves g1 g2) (by kernel_rfl) ?_
            refine wpS_call (by decide) (by rfl) ((failed_any g1 bd l false _ hw0.drew).mono ?_) (fun _ => by simp only [List.getElem_cons_succ, List.getElem_cons_zero] ; go_simp)
            rintro e w2 ⟨rfl, rfl⟩
            refine ⟨_, rfl, (only2_moves g1 g2).refl _, ?_⟩
            simp only [Act.put, List.getElem_cons_succ, List.getElem_cons_zero, List.setIfInBounds_toArray, List.set_cons_zero, List.set_cons_succ]
            refine wpR_take 6 (v := ?_) (only2_moves g1 g2) (by decide) (by kernel_rfl) (by kernel_rfl) (by kernel_rfl) (fun _ _ _ h => h) (wantedT (by rfl) ?_) ?_ ; rotate_left ; · ( intro w' hR ; simp only [List.getElem_cons_succ, List.getElem_cons_zero] ; go_simp ; try with_reducible rfl )
            simp only [Act.put, List.getElem_cons_succ, List.getElem_cons_zero, List.setIfInBounds_toArray, List.set_cons_zero, List.set_cons_succ]
            refine wpR_take 7 (v := ?_) (only2_moves g1 g2) (by decide) (by kernel_rfl) (by kernel_rfl) (by kernel_rfl) (fun _ _ _ h => h) (wantedT (by rfl) ?_) ?_ ; rotate_left ; · ( intro w' hR ; simp only [List.getElem_cons_succ, List.getElem_cons_zero] ; go_simp ; try with_reducible rfl )
            simp only [Act.put, List.getElem_cons_succ, List.getElem_cons_zero, List.setIfInBounds_toArray, List.set_cons_zero, List.set_cons_succ]
            refine wpR_take 8 (v := ?_) (only2_moves g1 g2) (by decide) (by kernel_rfl) (by kernel_rfl) (by kernel_rfl) (fun _ _ _ h => h) (wantedT (by rfl) ?_) ?_ ; rotate_left ; · ( intro w' hR ; simp only [List.getElem_cons_succ, List.getElem_cons_zero] ; go_simp ; try with_reducible rfl )
            simp only [Act.put, List.getElem_cons_succ, List.getElem_cons_zero, List.setIfInBounds_toArray, List.set_cons_zero, List.set_cons_succ]
            refine wpR_take 10 (v := ?_) (only2_moves g1 g2) (by decide) (by kernel_rfl) (by kernel_rfl) (by kernel_rfl) (fun _ _ _ h => h) (wantedT (by rfl) ?_) ?_ ; rotate_left ; · ( intro w' hR ; simp only [List.getElem_cons_succ, List.getElem_cons_zero] ; go_simp ; try with_reducible rfl )
            simp only [Act.put, List.getElem_cons_succ, List.getElem_cons_zero, List.setIfInBounds_toArray, List.set_cons_zero, List.set_cons_succ]
            refine wpR_take 11 (v := ?_) (only2_moves g1 g2) (by decide) (by kernel_rfl) (by kernel_rfl) (by kernel_rfl) (fun _ _ _ h => h) (wantedT (by rfl) ?_) ?_ ; rotate_left ; · ( intro w' hR ; simp only [List.getElem_cons_succ, List.getElem_cons_zero] ; go_simp ; try with_reducible rfl )
            simp only [Act.put, List.getElem_cons_succ, List.getElem_cons_zero, List.setIfInBounds_toArray, List.set_cons_zero, List.set_cons_succ]
            refine wpR_take 12 (v := ?_) (only2_moves g1 g2) (by decide) (by kernel_rfl) (by kernel_rfl) (by kernel_rfl) (fun _ _ _ h => h) (wantedT (by rfl) ?_) ?_ ; rotate_left ; · ( intro w' hR ; simp only [List.getElem_cons_succ, List.getElem_cons_zero] ; go_simp ; try with_reducible rfl )
            simp only [Act.put, List.getElem_cons_succ, List.getElem_cons_zero, List.setIfInBounds_toArray, List.set_cons_zero, List.set_cons_succ]
            refine wpR_two 9 13 (only2_moves g1 g2) (by kernel_rfl) ?_ ?_
            · refine wpS_call (by decide) (by rfl) ((done_any g1 bd l false _ hw0.drew).mono ?_) (fun _ => by simp only [List.getElem_cons_succ, List.getElem_cons_zero] ; go_simp)
              rintro e w3 ⟨rfl, kk, rfl⟩
              rw [HD.out]
              refine ⟨_, rfl, only2_l (grown_drewN' (grown_refl' _ _) _), ?_⟩
              simp only [Act.put, List.getElem_cons_succ, List.getElem_cons_zero, List.setIfInBounds_toArray, List.set_cons_zero, List.set_cons_succ]
              refine wpR_one 13 (only2_moves g1 g2) (by kernel_rfl) ?_
              refine wpS_read (v := .bool false) (only2_moves g1 g2) (by decide) (by rfl) ?_ ?_ ; · ( simp only [List.getElem_cons_succ, List.getElem_cons_zero] ; have q := hbm.drew.cell 1 ; simp at q ; go_simp )
              simp only [Act.put, List.getElem_cons_succ, List.getElem_cons_zero, List.setIfInBounds_toArray, List.set_cons_zero, List.set_cons_succ]
              refine wpR_take 14 (v := ?_) (only2_moves g1 g2) (by decide) (by kernel_rfl) (by kernel_rfl) (by kernel_rfl) (fun _ _ _ h => h) (wantedT (by rfl) ?_) ?_ ; rotate_left ; · ( intro w' hR ; simp only [List.getElem_cons_succ, List.getElem_cons_zero] ; go_simp ; try with_reducible rfl )
              simp only [Act.put, List.getElem_cons_succ, List.getElem_cons_zero, List.setIfInBounds_toArray, List.set_cons_zero, List.set_cons_succ]
              refine wpR_take 15 (v := ?_) (only2_moves g1 g2) (by decide) (by kernel_rfl) (by kernel_rfl) (by kernel_rfl) (fun _ _ _ h => h) (wantedT (by rfl) ?_) ?_ ; rotate_left ; · ( intro w' hR ; simp only [List.getElem_cons_succ, List.getElem_cons_zero] ; go_simp ; try with_reducible rfl )
              simp only [Act.put, List.getElem_cons_succ, List.getElem_cons_zero, List.setIfInBounds_toArray, List.set_cons_zero, List.set_cons_succ]
              refine wpR_take 16 (v := ?_) (only2_moves g1 g2) (by decide) (by kernel_rfl) (by kernel_rfl) (by kernel_rfl) (fun _ _ _ h => h) (wantedT (by rfl) ?_) ?_ ; rotate_left ; · ( intro w' hR ; simp only [List.getElem_cons_succ, List.getElem_cons_zero] ; go_simp ; try with_reducible rfl )
              simp only [Act.put, List.getElem_cons_succ, List.getElem_cons_zero, List.setIfInBounds_toArray, List.set_cons_zero, List.set_cons_succ]
              refine wpR_take 17 (v := ?_) (only2_moves g1 g2) (by decide) (by kernel_rfl) (by kernel_rfl) (by kernel_rfl) (fun _ _ _ h => h) (wantedT (by rfl) ?_) ?_ ; rotate_left ; · ( intro w' hR ; simp only [List.getElem_cons_succ, List.getElem_cons_zero] ; go_simp ; try with_reducible rfl )
              simp only [Act.put, List.getElem_cons_succ, List.getElem_cons_zero, List.setIfInBounds_toArray, List.set_cons_zero, List.set_cons_succ]
              refine wpR_take 18 (v := ?_) (only2_moves g1 g2) (by decide) (by kernel_rfl) (by kernel_rfl) (by kernel_rfl) (fun _ _ _ h => h) (wantedT (by rfl) ?_) ?_ ; rotate_left ; · ( intro w' hR ; simp only [List.getElem_cons_succ, List.getElem_cons_zero] ; go_simp ; try with_reducible rfl )
              simp only [Act.put, List.getElem_cons_succ, List.getElem_cons_zero, List.setIfInBounds_toArray, List.set_cons_zero, List.set_cons_succ]
              refine wpR_one 19 (only2_moves g1 g2) (by kernel_rfl) ?_
              refine wpS_read (v := .slice A2 n2 c2) (only2_moves g1 g2) (by decide) (by rfl) ?_ ?_ ; · ( simp only [List.getElem_cons_succ, List.getElem_cons_zero] ; have q := hbm.drew.cell 0 ; simp at q ; go_simp )
              simp only [Act.put, List.getElem_cons_succ, List.getElem_cons_zero, List.setIfInBounds_toArray, List.set_cons_zero, List.set_cons_succ]
              refine wpR_take 20 (v := ?_) (only2_moves g1 g2) (by decide) (by kernel_rfl) (by kernel_rfl) (by kernel_rfl) (fun _ _ _ h => h) (wantedT (by rfl) ?_) ?_ ; rotate_left ; · ( intro w' hR ; simp only [List.getElem_cons_succ, List.getElem_cons_zero] ; go_simp ; try with_reducible rfl )
              simp only [Act.put, List.getElem_cons_succ, List.getElem_cons_zero, List.setIfInBounds_toArray, List.set_cons_zero, List.set_cons_succ]
              refine wpR_take 21 (v := ?_) (only2_moves g1 g2) (by decide) (by kernel_rfl) (by kernel_rfl) (by kernel_rfl) (fun _ _ _ h => h) (wantedT (by rfl) ?_) ?_ ; rotate_left ; · ( intro w' hR ; simp only [List.getElem_cons_succ, List.getElem_cons_zero] ; go_simp ; try with_reducible rfl )
              simp only [Act.put, List.getElem_cons_succ, List.getElem_cons_zero, List.setIfInBounds_toArray, List.set_cons_zero, List.set_cons_succ]
              refine wpR_take 22 (v := ?_) (only2_moves g1 g2) (by decide) (by kernel_rfl) (by kernel_rfl) (by kernel_rfl) (fun _ _ _ h => h) (wantedT (by rfl) ?_) ?_ ; rotate_left ; · ( intro w' hR ; simp only [List.getElem_cons_succ, List.getElem_cons_zero] ; go_simp ; try with_reducible rfl )
              simp only [Act.put, List.getElem_cons_succ, List.getElem_cons_zero, List.setIfInBounds_toArray, List.set_cons_zero, List.set_cons_succ]
              refine wpR_take 23 (v := ?_) (only2_moves g1 g2) (by decide) (by kernel_rfl) (by kernel_rfl) (by kernel_rfl) (fun _ _ _ h => h) (wantedT (by rfl) ?_) ?_ ; rotate_left ; · ( intro w' hR ; simp only [List.getElem_cons_succ, List.getElem_cons_zero] ; go_simp ; try with_reducible rfl )
              simp only [Act.put, List.getElem_cons_succ, List.getElem_cons_zero, List.setIfInBounds_toArray, List.set_cons_zero, List.set_cons_succ]
              refine wpR_take 24 (v := ?_) (only2_moves g1 g2) (by decide) (by kernel_rfl) (by kernel_rfl) (by kernel_rfl) (fun _ _ _ h => h) (wantedT (by rfl) ?_) ?_ ; rotate_left ; · ( intro w' hR ; simp only [List.getElem_cons_succ, List.getElem_cons_zero] ; go_simp ; try with_reducible rfl )
              simp only [Act.put, List.getElem_cons_succ, List.getElem_cons_zero, List.setIfInBounds_toArray, List.set_cons_zero, List.set_cons_succ]
              refine wpR_take 25 (v := ?_) (only2_moves g1 g2) (by decide) (by kernel_rfl) (by kernel_rfl) (by kernel_rfl) (fun _ _ _ h => h) (wantedT (by rfl) ?_) ?_ ; rotate_left ; · ( intro w' hR ; simp only [List.getElem_cons_succ, List.getElem_cons_zero] ; go_simp ; try with_reducible rfl )
              simp only [Act.put, List.getElem_cons_succ, List.getElem_cons_zero, List.setIfInBounds_toArray, List.set_cons_zero, List.set_cons_succ]
              refine wpR_take 26 (v := ?_) (only2_moves g1 g2) (by decide) (by kernel_rfl) (by kernel_rfl) (by kernel_rfl) (fun _ _ _ h => h) (wantedT (by rfl) ?_) ?_ ; rotate_left ; · ( intro w' hR ; simp only [List.getElem_cons_succ, List.getElem_cons_zero] ; go_simp ; try with_reducible rfl )
              simp only [Act.put, List.getElem_cons_succ, List.getElem_cons_zero, List.setIfInBounds_toArray, List.set_cons_zero, List.set_cons_succ]
              refine wpR_take 27 (v := ?_) (only2_moves g1 g2) (by decide) (by kernel_rfl) (by kernel_rfl) (by kernel_rfl) (fun _ _ _ h => h) (wantedT (by rfl) ?_) ?_ ; rotate_left ; · ( intro w' hR ; simp only [List.getElem_cons_succ, List.getElem_cons_zero] ; go_simp ; try with_reducible rfl )
              simp only [Act.put, List.getElem_cons_succ, List.getElem_cons_zero, List.setIfInBounds_toArray, List.set_cons_zero, List.set_cons_succ]
              refine wpR_take 28 (v := .agg #[.int .u8 (o.kind : Int), .int .i64 o.most, .int .u64 (o.p : Int)]) (only2_moves g1 g2) (by decide) (by kernel_rfl) (by kernel_rfl) (by kernel_rfl) (fun _ _ _ h => h) (wantedT (by rfl) ?_) ?_ ; · ( intro w' hR ; simp only [List.getElem_cons_succ, List.getElem_cons_zero] ; have q0 := ((hx0.drewN kk).only2 hR hg1x hg2x).cell 0 ; have q1 := ((hx0.drewN kk).only2 hR hg1x hg2x).cell 1 ; have q2 := ((hx0.drewN kk).only2 hR hg1x hg2x).cell 2 ; simp at q0 q1 q2 ; go_simp )
              simp only [Act.put, List.getElem_cons_succ, List.getElem_cons_zero, List.setIfInBounds_toArray, List.set_cons_zero, List.set_cons_succ]
              refine wpR_one 29 (only2_moves g1 g2) (by kernel_rfl) ?_
              refine wpS_call (by decide) (by rfl) ((do_any g1 g2 _ bd o l false _ (hw0.drew.drewN _) (hm0.drew'.drewN _) h12 hbd hbd2).mono ?_) (fun _ => by simp only [List.getElem_cons_succ, List.getElem_cons_zero] ; go_simp)
              rintro e w4 ⟨rfl, l4, f4, hw4, hm4, hq4⟩
              refine ⟨_, rfl, hq4, ?_⟩
              simp only [Act.put, List.getElem_cons_succ, List.getElem_cons_zero, List.setIfInBounds_toArray, List.set_cons_zero, List.set_cons_succ]
              refine wpR_take 30 (v := ?_) (only2_moves g1 g2) (by decide) (by kernel_rfl) (by kernel_rfl) (by kernel_rfl) (fun _ _ _ h => h) (wantedT (by rfl) ?_) ?_ ; rotate_left ; · ( intro w' hR ; simp only [List.getElem_cons_succ, List.getElem_cons_zero] ; go_simp ; try with_reducible rfl )
              simp only [Act.put, List.getElem_cons_succ, List.getElem_cons_zero, List.setIfInBounds_toArray, List.set_cons_zero, List.set_cons_succ]
              refine wpR_take 31 (v := ?_) (only2_moves g1 g2) (by decide) (by kernel_rfl) (by kernel_rfl) (by kernel_rfl) (fun _ _ _ h => h) (wantedT (by rfl) ?_) ?_ ; rotate_left ; · ( intro w' hR ; simp only [List.getElem_cons_succ, List.getElem_cons_zero] ; go_simp ; try with_reducible rfl )
              simp only [Act.put, List.getElem_cons_succ, List.getElem_cons_zero, List.setIfInBounds_toArray, List.set_cons_zero, List.set_cons_succ]
              refine wpR_done (by kernel_rfl) ?_
              have hbF := below_only2 (below_drewN' hb0.drew kk) hq4 hb0.size hB1 hB2
              clear hw0 hm0 hbm hb0 hx0 hq4
              go_wp2
              go_roundw
              case rel => exact ⟨j + 1, l4, f4, by omega, by go_num, hw4, hm4, hbF⟩
              case measure => simp [intOf]; omega
            · refine wpS_read (v := .bool false) (only2_moves g1 g2) (by decide) (by rfl) ?_ ?_ ; · ( simp only [List.getElem_cons_succ, List.getElem_cons_zero] ; have q := hbm.drew.cell 1 ; simp at q ; go_simp )
              simp only [Act.put, List.getElem_cons_succ, List.getElem_cons_zero, List.setIfInBounds_toArray, List.set_cons_zero, List.set_cons_succ]
              refine wpR_take 14 (v := ?_) (only2_moves g1 g2) (by decide) (by kernel_rfl) (by kernel_rfl) (by kernel_rfl) (fun _ _ _ h => h) (wantedT (by rfl) ?_) ?_ ; rotate_left ; · ( intro w' hR ; simp only [List.getElem_cons_succ, List.getElem_cons_zero] ; go_simp ; try with_reducible rfl )
              simp only [Act.put, List.getElem_cons_succ, List.getElem_cons_zero, List.setIfInBounds_toArray, List.set_cons_zero, List.set_cons_succ]
              refine wpR_one 9 (only2_moves g1 g2) (by kernel_rfl) ?_
              refine wpS_call (by decide) (by rfl) ((done_any g1 bd l false _ hw0.drew).mono ?_) (fun _ => by simp only [List.getElem_cons_succ, List.getElem_cons_zero] ; go_simp)
              rintro e w3 ⟨rfl, kk, rfl⟩
              rw [HD.out]
              refine ⟨_, rfl, only2_l (grown_drewN' (grown_refl' _ _) _), ?_⟩
              simp only [Act.put, List.getElem_cons_succ, List.getElem_cons_zero, List.setIfInBounds_toArray, List.set_cons_zero, List.set_cons_succ]
              refine wpR_take 15 (v := ?_) (only2_moves g1 g2) (by decide) (by kernel_rfl) (by kernel_rfl) (by kernel_rfl) (fun _ _ _ h => h) (wantedT (by rfl) ?_) ?_ ; rotate_left ; · ( intro w' hR ; simp only [List.getElem_cons_succ, List.getElem_cons_zero] ; go_simp ; try with_reducible rfl )
              simp only [Act.put, List.getElem_cons_succ, List.getElem_cons_zero, List.setIfInBounds_toArray, List.set_cons_zero, List.set_cons_succ]
              refine wpR_take 16 (v := ?_) (only2_moves g1 g2) (by decide) (by kernel_rfl) (by kernel_rfl) (by kernel_rfl) (fun _ _ _ h => h) (wantedT (by rfl) ?_) ?_ ; rotate_left ; · ( intro w' hR ; simp only [List.getElem_cons_succ, List.getElem_cons_zero] ; go_simp ; try with_reducible rfl )
              simp only [Act.put, List.getElem_cons_succ, List.getElem_cons_zero, List.setIfInBounds_toArray, List.set_cons_zero, List.set_cons_succ]
              refine wpR_take 17 (v := ?_) (only2_moves g1 g2) (by decide) (by kernel_rfl) (by kernel_rfl) (by kernel_rfl) (fun _ _ _ h => h) (wantedT (by rfl) ?_) ?_ ; rotate_left ; · ( intro w' hR ; simp only [List.getElem_cons_succ, List.getElem_cons_zero] ; go_simp ; try with_reducible rfl )
              simp only [Act.put, List.getElem_cons_succ, List.getElem_cons_zero, List.setIfInBounds_toArray, List.set_cons_zero, List.set_cons_succ]
              refine wpR_take 18 (v := ?_) (only2_moves g1 g2) (by decide) (by kernel_rfl) (by kernel_rfl) (by kernel_rfl) (fun _ _ _ h => h) (wantedT (by rfl) ?_) ?_ ; rotate_left ; · ( intro w' hR ; simp only [List.getElem_cons_succ, List.getElem_cons_zero] ; go_simp ; try with_reducible rfl )
              simp only [Act.put, List.getElem_cons_succ, List.getElem_cons_zero, List.setIfInBounds_toArray, List.set_cons_zero, List.set_cons_succ]
              refine wpR_one 19 (only2_moves g1 g2) (by kernel_rfl) ?_
              refine wpS_read (v := .slice A2 n2 c2) (only2_moves g1 g2) (by decide) (by rfl) ?_ ?_ ; · ( simp only [List.getElem_cons_succ, List.getElem_cons_zero] ; have q := hbm.drew.cell 0 ; simp at q ; go_simp )
              simp only [Act.put, List.getElem_cons_succ, List.getElem_cons_zero, List.setIfInBounds_toArray, List.set_cons_zero, List.set_cons_succ]
              refine wpR_take 20 (v := ?_) (only2_moves g1 g2) (by decide) (by kernel_rfl) (by kernel_rfl) (by kernel_rfl) (fun _ _ _ h => h) (wantedT (by rfl) ?_) ?_ ; rotate_left ; · ( intro w' hR ; simp only [List.getElem_cons_succ, List.getElem_cons_zero] ; go_simp ; try with_reducible rfl )
              simp only [Act.put, List.getElem_cons_succ, List.getElem_cons_zero, List.setIfInBounds_toArray, List.set_cons_zero, List.set_cons_succ]
              refine wpR_take 21 (v := ?_) (only2_moves g1 g2) (by decide) (by kernel_rfl) (by kernel_rfl) (by kernel_rfl) (fun _ _ _ h => h) (wantedT (by rfl) ?_) ?_ ; rotate_left ; · ( intro w' hR ; simp only [List.getElem_cons_succ, List.getElem_cons_zero] ; go_simp ; try with_reducible rfl )
              simp only [Act.put, List.getElem_cons_succ, List.getElem_cons_zero, List.setIfInBounds_toArray, List.set_cons_zero, List.set_cons_succ]
              refine wpR_take 22 (v := ?_) (only2_moves g1 g2) (by decide) (by kernel_rfl) (by kernel_rfl) (by kernel_rfl) (fun _ _ _ h => h) (wantedT (by rfl) ?_) ?_ ; rotate_left ; · ( intro w' hR ; simp only [List.getElem_cons_succ, List.getElem_cons_zero] ; go_simp ; try with_reducible rfl )
              simp only [Act.put, List.getElem_cons_succ, List.getElem_cons_zero, List.setIfInBounds_toArray, List.set_cons_zero, List.set_cons_succ]
              refine wpR_take 23 (v := ?_) (only2_moves g1 g2) (by decide) (by kernel_rfl) (by kernel_rfl) (by kernel_rfl) (fun _ _ _ h => h) (wantedT (by rfl) ?_) ?_ ; rotate_left ; · ( intro w' hR ; simp only [List.getElem_cons_succ, List.getElem_cons_zero] ; go_simp ; try with_reducible rfl )
              simp only [Act.put, List.getElem_cons_succ, List.getElem_cons_zero, List.setIfInBounds_toArray, List.set_cons_zero, List.set_cons_succ]
              refine wpR_take 24 (v := ?_) (only2_moves g1 g2) (by decide) (by kernel_rfl) (by kernel_rfl) (by kernel_rfl) (fun _ _ _ h => h) (wantedT (by rfl) ?_) ?_ ; rotate_left ; · ( intro w' hR ; simp only [List.getElem_cons_succ, List.getElem_cons_zero] ; go_simp ; try with_reducible rfl )
              simp only [Act.put, List.getElem_cons_succ, List.getElem_cons_zero, List.setIfInBounds_toArray, List.set_cons_zero, List.set_cons_succ]
              refine wpR_take 25 (v := ?_) (only2_moves g1 g2) (by decide) (by kernel_rfl) (by kernel_rfl) (by kernel_rfl) (fun _ _ _ h => h) (wantedT (by rfl) ?_) ?_ ; rotate_left ; · ( intro w' hR ; simp only [List.getElem_cons_succ, List.getElem_cons_zero] ; go_simp ; try with_reducible rfl )
              simp only [Act.put, List.getElem_cons_succ, List.getElem_cons_zero, List.setIfInBounds_toArray, List.set_cons_zero, List.set_cons_succ]
              refine wpR_take 26 (v := ?_) (only2_moves g1 g2) (by decide) (by kernel_rfl) (by kernel_rfl) (by kernel_rfl) (fun _ _ _ h => h) (wantedT (by rfl) ?_) ?_ ; rotate_left ; · ( intro w' hR ; simp only [List.getElem_cons_succ, List.getElem_cons_zero] ; go_simp ; try with_reducible rfl )
              simp only [Act.put, List.getElem_cons_succ, List.getElem_cons_zero, List.setIfInBounds_toArray, List.set_cons_zero, List.set_cons_succ]
              refine wpR_take 27 (v := ?_) (only2_moves g1 g2) (by decide) (by kernel_rfl) (by kernel_rfl) (by kernel_rfl) (fun _ _ _ h => h) (wantedT (by rfl) ?_) ?_ ; rotate_left ; · ( intro w' hR ; simp only [List.getElem_cons_succ, List.getElem_cons_zero] ; go_simp ; try with_reducible rfl )
              simp only [Act.put, List.getElem_cons_succ, List.getElem_cons_zero, List.setIfInBounds_toArray, List.set_cons_zero, List.set_cons_succ]
              refine wpR_take 28 (v := .agg #[.int .u8 (o.kind : Int), .int .i64 o.most, .int .u64 (o.p : Int)]) (only2_moves g1 g2) (by decide) (by kernel_rfl) (by kernel_rfl) (by kernel_rfl) (fun _ _ _ h => h) (wantedT (by rfl) ?_) ?_ ; · ( intro w' hR ; simp only [List.getElem_cons_succ, List.getElem_cons_zero] ; have q0 := ((hx0.drewN kk).only2 hR hg1x hg2x).cell 0 ; have q1 := ((hx0.drewN kk).only2 hR hg1x hg2x).cell 1 ; have q2 := ((hx0.drewN kk).only2 hR hg1x hg2x).cell 2 ; simp at q0 q1 q2 ; go_simp )
              simp only [Act.put, List.getElem_cons_succ, List.getElem_cons_zero, List.setIfInBounds_toArray, List.set_cons_zero, List.set_cons_succ]
              refine wpR_one 29 (only2_moves g1 g2) (by kernel_rfl) ?_
              refine wpS_call (by decide) (by rfl) ((do_any g1 g2 _ bd o l false _ (hw0.drew.drewN _) (hm0.drew'.drewN _) h12 hbd hbd2).mono ?_) (fun _ => by simp only [List.getElem_cons_succ, List.getElem_cons_zero] ; go_simp)
              rintro e w4 ⟨rfl, l4, f4, hw4, hm4, hq4⟩
              refine ⟨_, rfl, hq4, ?_⟩
              simp only [Act.put, List.getElem_cons_succ, List.getElem_cons_zero, List.setIfInBounds_toArray, List.set_cons_zero, List.set_cons_succ]
              refine wpR_take 30 (v := ?_) (only2_moves g1 g2) (by decide) (by kernel_rfl) (by kernel_rfl) (by kernel_rfl) (fun _ _ _ h => h) (wantedT (by rfl) ?_) ?_ ; rotate_left ; · ( intro w' hR ; simp only [List.getElem_cons_succ, List.getElem_cons_zero] ; go_simp ; try with_reducible rfl )
              simp only [Act.put, List.getElem_cons_succ, List.getElem_cons_zero, List.setIfInBounds_toArray, List.set_cons_zero, List.set_cons_succ]
              refine wpR_take 31 (v := ?_) (only2_moves g1 g2) (by decide) (by kernel_rfl) (by kernel_rfl) (by kernel_rfl) (fun _ _ _ h => h) (wantedT (by rfl) ?_) ?_ ; rotate_left ; · ( intro w' hR ; simp only [List.getElem_cons_succ, List.getElem_cons_zero] ; go_simp ; try with_reducible rfl )
              simp only [Act.put, List.getElem_cons_succ, List.getElem_cons_zero, List.setIfInBounds_toArray, List.set_cons_zero, List.set_cons_succ]
              refine wpR_done (by kernel_rfl) ?_
              have hbF := below_only2 (below_drewN' hb0.drew kk) hq4 hb0.size hB1 hB2
              clear hw0 hm0 hbm hb0 hx0 hq4
              go_wp2
              go_roundw
              case rel => exact ⟨j + 1, l4, f4, by omega, by go_num, hw4, hm4, hbF⟩
              case measure => simp [intOf]; omega
    · have hw0 := hw
      have hm0 := hm'
      have hbm := hbm0
      have hb0 := hb
      clear hb hw hm' hbm0
      cases f with
      | true =>
        have HD : Hid ((!true && l.isEmpty) = false) := rfl
        go_wp2_with fail
        refine wpR_begin (Only2 g1 g2) (by kernel_rfl) ?_
        refine wpR_take 0 (v := ?_) (only2_moves g1 g2) (by decide) (by kernel_rfl) (by kernel_rfl) (by kernel_rfl) (fun _ _ _ h => h) (wantedT (by rfl) ?_) ?_ ; rotate_left ; · ( intro w' hR ; simp only [List.getElem_cons_succ, List.getElem_cons_zero] ; go_simp ; try with_reducible rfl )
        simp only [Act.put, List.getElem_cons_succ, List.getElem_cons_zero, List.setIfInBounds_toArray, List.set_cons_zero, List.set_cons_succ]
        refine wpR_take 2 (v := ?_) (only2_moves g1 g2) (by decide) (by kernel_rfl) (by kernel_rfl) (by kernel_rfl) (fun _ _ _ h => h) (wantedT (by rfl) ?_) ?_ ; rotate_left ; · ( intro w' hR ; simp only [List.getElem_cons_succ, List.getElem_cons_zero] ; go_simp ; try with_reducible rfl )
        simp only [Act.put, List.getElem_cons_succ, List.getElem_cons_zero, List.setIfInBounds_toArray, List.set_cons_zero, List.set_cons_succ]
        refine wpR_take 3 (v := ?_) (only2_moves g1 g2) (by decide) (by kernel_rfl) (by kernel_rfl) (by kernel_rfl) (fun _ _ _ h => h) (wantedT (by rfl) ?_) ?_ ; rotate_left ; · ( intro w' hR ; simp only [List.getElem_cons_succ, List.getElem_cons_zero] ; go_simp ; try with_reducible rfl )
        simp only [Act.put, List.getElem_cons_succ, List.getElem_cons_zero, List.setIfInBounds_toArray, List.set_cons_zero, List.set_cons_succ]
        refine wpR_take 4 (v := ?_) (only2_moves g1 g2) (by decide) (by kernel_rfl) (by kernel_rfl) (by kernel_rfl) (fun _ _ _ h => h) (wantedT (by rfl) ?_) ?_ ; rotate_left ; · ( intro w' hR ; simp only [List.getElem_cons_succ, List.getElem_cons_zero] ; go_simp ; try with_reducible rfl )
        simp only [Act.put, List.getElem_cons_succ, List.getElem_cons_zero, List.setIfInBounds_toArray, List.set_cons_zero, List.set_cons_succ]
        refine wpR_two 1 5 (only2_moves g1 g2) (by kernel_rfl) ?_ ?_
        · refine wpS_call (by decide) (by rfl) ((failed_any g1 bd l true _ hw0.drew).mono ?_) (fun _ => by simp only [List.getElem_cons_succ, List.getElem_cons_zero] ; go_simp)
          rintro e w2 ⟨rfl, rfl⟩
          refine ⟨_, rfl, (only2_moves g1 g2).refl _, ?_⟩
          simp only [Act.put, List.getElem_cons_succ, List.getElem_cons_zero, List.setIfInBounds_toArray, List.set_cons_zero, List.set_cons_succ]
          refine wpR_one 5 (only2_moves g1 g2) (by kernel_rfl) ?_
          refine wpS_read (v := .bool true) (only2_moves g1 g2) (by decide) (by rfl) ?_ ?_ ; · ( simp only [List.getElem_cons_succ, List.getElem_cons_zero] ; have q := hbm.drew.cell 1 ; simp at q ; go_simp )
          simp only [Act.put, List.getElem_cons_succ, List.getElem_cons_zero, List.setIfInBounds_toArray, List.set_cons_zero, List.set_cons_succ]
          refine wpR_take 6 (v := ?_) (only2_moves g1 g2) (by decide) (by kernel_rfl) (by kernel_rfl) (by kernel_rfl) (fun _ _ _ h => h) (wantedT (by rfl) ?_) ?_ ; rotate_left ; · ( intro w' hR ; simp only [List.getElem_cons_succ, List.getElem_cons_zero] ; go_simp ; try with_reducible rfl )
          simp only [Act.put, List.getElem_cons_succ, List.getElem_cons_zero, List.setIfInBounds_toArray, List.set_cons_zero, List.set_cons_succ]
          refine wpR_take 7 (v := ?_) (only2_moves g1 g2) (by decide) (by kernel_rfl) (by kernel_rfl) (by kernel_rfl) (fun _ _ _ h => h) (wantedT (by rfl) ?_) ?_ ; rotate_left ; · ( intro w' hR ; simp only [List.getElem_cons_succ, List.getElem_cons_zero] ; go_simp ; try with_reducible rfl )
          simp only [Act.put, List.getElem_cons_succ, List.getElem_cons_zero, List.setIfInBounds_toArray, List.set_cons_zero, List.set_cons_succ]
          refine wpR_take 8 (v := ?_) (only2_moves g1 g2) (by decide) (by kernel_rfl) (by kernel_rfl) (by kernel_rfl) (fun _ _ _ h => h) (wantedT (by rfl) ?_) ?_ ; rotate_left ; · ( intro w' hR ; simp only [List.getElem_cons_succ, List.getElem_cons_zero] ; go_simp ; try with_reducible rfl )
          simp only [Act.put, List.getElem_cons_succ, List.getElem_cons_zero, List.setIfInBounds_toArray, List.set_cons_zero, List.set_cons_succ]
          refine wpR_take 10 (v := ?_) (only2_moves g1 g2) (by decide) (by kernel_rfl) (by kernel_rfl) (by kernel_rfl) (fun _ _ _ h => h) (wantedT (by rfl) ?_) ?_ ; rotate_left ; · ( intro w' hR ; simp only [List.getElem_cons_succ, List.getElem_cons_zero] ; go_simp ; try with_reducible rfl )
          simp only [Act.put, List.getElem_cons_succ, List.getElem_cons_zero, List.setIfInBounds_toArray, List.set_cons_zero, List.set_cons_succ]
          refine wpR_take 11 (v := ?_) (only2_moves g1 g2) (by decide) (by kernel_rfl) (by kernel_rfl) (by kernel_rfl) (fun _ _ _ h => h) (wantedT (by rfl) ?_) ?_ ; rotate_left ; · ( intro w' hR ; simp only [List.getElem_cons_succ, List.getElem_cons_zero] ; go_simp ; try with_reducible rfl )
          simp only [Act.put, List.getElem_cons_succ, List.getElem_cons_zero, List.setIfInBounds_toArray, List.set_cons_zero, List.set_cons_succ]
          refine wpR_take 12 (v := ?_) (only2_moves g1 g2) (by decide) (by kernel_rfl) (by kernel_rfl) (by kernel_rfl) (fun _ _ _ h => h) (wantedT (by rfl) ?_) ?_ ; rotate_left ; · ( intro w' hR ; simp only [List.getElem_cons_succ, List.getElem_cons_zero] ; go_simp ; try with_reducible rfl )
          simp only [Act.put, List.getElem_cons_succ, List.getElem_cons_zero, List.setIfInBounds_toArray, List.set_cons_zero, List.set_cons_succ]
          refine wpR_two 9 13 (only2_moves g1 g2) (by kernel_rfl) ?_ ?_
          · refine wpS_call (by decide) (by rfl) ((done_any g1 bd l true _ hw0.drew).mono ?_) (fun _ => by simp only [List.getElem_cons_succ, List.getElem_cons_zero] ; go_simp)
            rintro e w3 ⟨rfl, kk, rfl⟩
            rw [HD.out]
            refine ⟨_, rfl, only2_l (grown_drewN' (grown_refl' _ _) _), ?_⟩
            simp only [Act.put, List.getElem_cons_succ, List.getElem_cons_zero, List.setIfInBounds_toArray, List.set_cons_zero, List.set_cons_succ]
            refine wpR_one 13 (only2_moves g1 g2) (by kernel_rfl) ?_
            refine wpS_read (v := .bool true) (only2_moves g1 g2) (by decide) (by rfl) ?_ ?_ ; · ( simp only [List.getElem_cons_succ, List.getElem_cons_zero] ; have q := hbm.drew.cell 1 ; simp at q ; go_simp )
            simp only [Act.put, List.getElem_cons_succ, List.getElem_cons_zero, List.setIfInBounds_toArray, List.set_cons_zero, List.set_cons_succ]
            refine wpR_take 14 (v := ?_) (only2_moves g1 g2) (by decide) (by kernel_rfl) (by kernel_rfl) (by kernel_rfl) (fun _ _ _ h => h) (wantedT (by rfl) ?_) ?_ ; rotate_left ; · ( intro w' hR ; simp only [List.getElem_cons_succ, List.getElem_cons_zero] ; go_simp ; try with_reducible rfl )
            simp only [Act.put, List.getElem_cons_succ, List.getElem_cons_zero, List.setIfInBounds_toArray, List.set_cons_zero, List.set_cons_succ]
            refine wpR_take 15 (v := ?_) (only2_moves g1 g2) (by decide) (by kernel_rfl) (by kernel_rfl) (by kernel_rfl) (fun _ _ _ h => h) (wantedT (by rfl) ?_) ?_ ; rotate_left ; · ( intro w' hR ; simp only [List.getElem_cons_succ, List.getElem_cons_zero] ; go_simp ; try with_reducible rfl )
            simp only [Act.put, List.getElem_cons_succ, List.getElem_cons_zero, List.setIfInBounds_toArray, List.set_cons_zero, List.set_cons_succ]
            refine wpR_take 16 (v := undef) (only2_moves g1 g2) (by decide) (by kernel_rfl) (by kernel_rfl) (by kernel_rfl) (fun _ _ _ h => h) (wantedF (by rfl)) ?_
            simp only [Act.put, List.getElem_cons_succ, List.getElem_cons_zero, List.setIfInBounds_toArray, List.set_cons_zero, List.set_cons_succ]
            refine wpR_take 17 (v := undef) (only2_moves g1 g2) (by decide) (by kernel_rfl) (by kernel_rfl) (by kernel_rfl) (fun _ _ _ h => h) (wantedF (by rfl)) ?_
            simp only [Act.put, List.getElem_cons_succ, List.getElem_cons_zero, List.setIfInBounds_toArray, List.set_cons_zero, List.set_cons_succ]
            refine wpR_take 18 (v := undef) (only2_moves g1 g2) (by decide) (by kernel_rfl) (by kernel_rfl) (by kernel_rfl) (fun _ _ _ h => h) (wantedF (by rfl)) ?_
            simp only [Act.put, List.getElem_cons_succ, List.getElem_cons_zero, List.setIfInBounds_toArray, List.set_cons_zero, List.set_cons_succ]
            refine wpR_take 19 (v := undef) (only2_moves g1 g2) (by decide) (by kernel_rfl) (by kernel_rfl) (by kernel_rfl) (fun _ _ _ h => h) (wantedF (by rfl)) ?_
            simp only [Act.put, List.getElem_cons_succ, List.getElem_cons_zero, List.setIfInBounds_toArray, List.set_cons_zero, List.set_cons_succ]
            refine wpR_take 20 (v := undef) (only2_moves g1 g2) (by decide) (by kernel_rfl) (by kernel_rfl) (by kernel_rfl) (fun _ _ _ h => h) (wantedF (by rfl)) ?_
            simp only [Act.put, List.getElem_cons_succ, List.getElem_cons_zero, List.setIfInBounds_toArray, List.set_cons_zero, List.set_cons_succ]
            refine wpR_take 21 (v := undef) (only2_moves g1 g2) (by decide) (by kernel_rfl) (by kernel_rfl) (by kernel_rfl) (fun _ _ _ h => h) (wantedF (by rfl)) ?_
            simp only [Act.put, List.getElem_cons_succ, List.getElem_cons_zero, List.setIfInBounds_toArray, List.set_cons_zero, List.set_cons_succ]
            refine wpR_take 22 (v := ?_) (only2_moves g1 g2) (by decide) (by kernel_rfl) (by kernel_rfl) (by kernel_rfl) (fun _ _ _ h => h) (wantedT (by rfl) ?_) ?_ ; rotate_left ; · ( intro w' hR ; simp only [List.getElem_cons_succ, List.getElem_cons_zero] ; go_simp ; try with_reducible rfl )
            simp only [Act.put, List.getElem_cons_succ, List.getElem_cons_zero, List.setIfInBounds_toArray, List.set_cons_zero, List.set_cons_succ]
            refine wpR_take 23 (v := ?_) (only2_moves g1 g2) (by decide) (by kernel_rfl) (by kernel_rfl) (by kernel_rfl) (fun _ _ _ h => h) (wantedT (by rfl) ?_) ?_ ; rotate_left ; · ( intro w' hR ; simp only [List.getElem_cons_succ, List.getElem_cons_zero] ; go_simp ; try with_reducible rfl )
            simp only [Act.put, List.getElem_cons_succ, List.getElem_cons_zero, List.setIfInBounds_toArray, List.set_cons_zero, List.set_cons_succ]
            refine wpR_take 24 (v := ?_) (only2_moves g1 g2) (by decide) (by kernel_rfl) (by kernel_rfl) (by kernel_rfl) (fun _ _ _ h => h) (wantedT (by rfl) ?_) ?_ ; rotate_left ; · ( intro w' hR ; simp only [List.getElem_cons_succ, List.getElem_cons_zero] ; go_simp ; try with_reducible rfl )
            simp only [Act.put, List.getElem_cons_succ, List.getElem_cons_zero, List.setIfInBounds_toArray, List.set_cons_zero, List.set_cons_succ]
            refine wpR_take 25 (v := ?_) (only2_moves g1 g2) (by decide) (by kernel_rfl) (by kernel_rfl) (by kernel_rfl) (fun _ _ _ h => h) (wantedT (by rfl) ?_) ?_ ; rotate_left ; · ( intro w' hR ; simp only [List.getElem_cons_succ, List.getElem_cons_zero] ; go_simp ; try with_reducible rfl )
            simp only [Act.put, List.getElem_cons_succ, List.getElem_cons_zero, List.setIfInBounds_toArray, List.set_cons_zero, List.set_cons_succ]
            refine wpR_done (by kernel_rfl) ?_
            have hbF := below_drewN' hb0.drew kk
            clear hw0 hm0 hbm hb0
            go_wp2
            go_ret
            exact ⟨by simp, hbF⟩
          · refine wpS_read (v := .bool true) (only2_moves g1 g2) (by decide) (by rfl) ?_ ?_ ; · ( simp only [List.getElem_cons_succ, List.getElem_cons_zero] ; have q := hbm.drew.cell 1 ; simp at q ; go_simp )
            simp only [Act.put, List.getElem_cons_succ, List.getElem_cons_zero, List.setIfInBounds_toArray, List.set_cons_zero, List.set_cons_succ]
            refine wpR_take 14 (v := ?_) (only2_moves g1 g2) (by decide) (by kernel_rfl) (by kernel_rfl) (by kernel_rfl) (fun _ _ _ h => h) (wantedT (by rfl) ?_) ?_ ; rotate_left ; · ( intro w' hR ; simp only [List.getElem_cons_succ, List.getElem_cons_zero] ; go_simp ; try with_reducible rfl )
            simp only [Act.put, List.getElem_cons_succ, List.getElem_cons_zero, List.setIfInBounds_toArray, List.set_cons_zero, List.set_cons_succ]
            refine wpR_one 9 (only2_moves g1 g2) (by kernel_rfl) ?_
            refine wpS_call (by decide) (by rfl) ((done_any g1 bd l true _ hw0.drew).mono ?_) (fun _ => by simp only [List.getElem_cons_succ, List.getElem_cons_zero] ; go_simp)
            rintro e w3 ⟨rfl, kk, rfl⟩
            rw [HD.out]
            refine ⟨_, rfl, only2_l (grown_drewN' (grown_refl' _ _) _), ?_⟩
            simp only [Act.put, List.getElem_cons_succ, List.getElem_cons_zero, List.setIfInBounds_toArray, List.set_cons_zero, List.set_cons_succ]
            refine wpR_take 15 (v := ?_) (only2_moves g1 g2) (by decide) (by kernel_rfl) (by kernel_rfl) (by kernel_rfl) (fun _ _ _ h => h) (wantedT (by rfl) ?_) ?_ ; rotate_left ; · ( intro w' hR ; simp only [List.getElem_cons_succ, List.getElem_cons_zero] ; go_simp ; try with_reducible rfl )
            simp only [Act.put, List.getElem_cons_succ, List.getElem_cons_zero, List.setIfInBounds_toArray, List.set_cons_zero, List.set_cons_succ]
            refine wpR_take 16 (v := undef) (only2_moves g1 g2) (by decide) (by kernel_rfl) (by kernel_rfl) (by kernel_rfl) (fun _ _ _ h => h) (wantedF (by rfl)) ?_
            simp only [Act.put, List.getElem_cons_succ, List.getElem_cons_zero, List.setIfInBounds_toArray, List.set_cons_zero, List.set_cons_succ]
            refine wpR_take 17 (v := undef) (only2_moves g1 g2) (by decide) (by kernel_rfl) (by kernel_rfl) (by kernel_rfl) (fun _ _ _ h => h) (wantedF (by rfl)) ?_
            simp only [Act.put, List.getElem_cons_succ, List.getElem_cons_zero, List.setIfInBounds_toArray, List.set_cons_zero, List.set_cons_succ]
            refine wpR_take 18 (v := undef) (only2_moves g1 g2) (by decide) (by kernel_rfl) (by kernel_rfl) (by kernel_rfl) (fun _ _ _ h => h) (wantedF (by rfl)) ?_
            simp only [Act.put, List.getElem_cons_succ, List.getElem_cons_zero, List.setIfInBounds_toArray, List.set_cons_zero, List.set_cons_succ]
            refine wpR_take 19 (v := undef) (only2_moves g1 g2) (by decide) (by kernel_rfl) (by kernel_rfl) (by kernel_rfl) (fun _ _ _ h => h) (wantedF (by rfl)) ?_
            simp only [Act.put, List.getElem_cons_succ, List.getElem_cons_zero, List.setIfInBounds_toArray, List.set_cons_zero, List.set_cons_succ]
            refine wpR_take 20 (v := undef) (only2_moves g1 g2) (by decide) (by kernel_rfl) (by kernel_rfl) (by kernel_rfl) (fun _ _ _ h => h) (wantedF (by rfl)) ?_
            simp only [Act.put, List.getElem_cons_succ, List.getElem_cons_zero, List.setIfInBounds_toArray, List.set_cons_zero, List.set_cons_succ]
            refine wpR_take 21 (v := undef) (only2_moves g1 g2) (by decide) (by kernel_rfl) (by kernel_rfl) (by kernel_rfl) (fun _ _ _ h => h) (wantedF (by rfl)) ?_
            simp only [Act.put, List.getElem_cons_succ, List.getElem_cons_zero, List.setIfInBounds_toArray, List.set_cons_zero, List.set_cons_succ]
            refine wpR_take 22 (v := ?_) (only2_moves g1 g2) (by decide) (by kernel_rfl) (by kernel_rfl) (by kernel_rfl) (fun _ _ _ h => h) (wantedT (by rfl) ?_) ?_ ; rotate_left ; · ( intro w' hR ; simp only [List.getElem_cons_succ, List.getElem_cons_zero] ; go_simp ; try with_reducible rfl )
            simp only [Act.put, List.getElem_cons_succ, List.getElem_cons_zero, List.setIfInBounds_toArray, List.set_cons_zero, List.set_cons_succ]
            refine wpR_take 23 (v := ?_) (only2_moves g1 g2) (by decide) (by kernel_rfl) (by kernel_rfl) (by kernel_rfl) (fun _ _ _ h => h) (wantedT (by rfl) ?_) ?_ ; rotate_left ; · ( intro w' hR ; simp only [List.getElem_cons_succ, List.getElem_cons_zero] ; go_simp ; try with_reducible rfl )
            simp only [Act.put, List.getElem_cons_succ, List.getElem_cons_zero, List.setIfInBounds_toArray, List.set_cons_zero, List.set_cons_succ]
            refine wpR_take 24 (v := ?_) (only2_moves g1 g2) (by decide) (by kernel_rfl) (by kernel_rfl) (by kernel_rfl) (fun _ _ _ h => h) (wantedT (by rfl) ?_) ?_ ; rotate_left ; · ( intro w' hR ; simp only [List.getElem_cons_succ, List.getElem_cons_zero] ; go_simp ; try with_reducible rfl )
            simp only [Act.put, List.getElem_cons_succ, List.getElem_cons_zero, List.setIfInBounds_toArray, List.set_cons_zero, List.set_cons_succ]
            refine wpR_take 25 (v := ?_) (only2_moves g1 g2) (by decide) (by kernel_rfl) (by kernel_rfl) (by kernel_rfl) (fun _ _ _ h => h) (wantedT (by rfl) ?_) ?_ ; rotate_left ; · ( intro w' hR ; simp only [List.getElem_cons_succ, List.getElem_cons_zero] ; go_simp ; try with_reducible rfl )
            simp only [Act.put, List.getElem_cons_succ, List.getElem_cons_zero, List.setIfInBounds_toArray, List.set_cons_zero, List.set_cons_succ]
            refine wpR_done (by kernel_rfl) ?_
            have hbF := below_drewN' hb0.drew kk
            clear hw0 hm0 hbm hb0
            go_wp2
            go_ret
            exact ⟨by simp, hbF⟩
        · refine wpS_read (v := .bool true) (only2_moves g1 g2) (by decide) (by rfl) ?_ ?_ ; · ( simp only [List.getElem_cons_succ, List.getElem_cons_zero] ; have q := hbm.drew.cell 1 ; simp at q ; go_simp )
          simp only [Act.put, List.getElem_cons_succ, List.getElem_cons_zero, List.setIfInBounds_toArray, List.set_cons_zero, List.set_cons_succ]
          refine wpR_one 1 (only2_moves g1 g2) (by kernel_rfl) ?_
          refine wpS_call (by decide) (by rfl) ((failed_any g1 bd l true _ hw0.drew).mono ?_) (fun _ => by simp only [List.getElem_cons_succ, List.getElem_cons_zero] ; go_simp)
          rintro e w2 ⟨rfl, rfl⟩
          refine ⟨_, rfl, (only2_moves g1 g2).refl _, ?_⟩
          simp only [Act.put, List.getElem_cons_succ, List.getElem_cons_zero, List.setIfInBounds_toArray, List.set_cons_zero, List.set_cons_succ]
          refine wpR_take 6 (v := ?_) (only2_moves g1 g2) (by decide) (by kernel_rfl) (by kernel_rfl) (by kernel_rfl) (fun _ _ _ h => h) (wantedT (by rfl) ?_) ?_ ; rotate_left ; · ( intro w' hR ; simp only [List.getElem_cons_succ, List.getElem_cons_zero] ; go_simp ; try with_reducible rfl )
          simp only [Act.put, List.getElem_cons_succ, List.getElem_cons_zero, List.setIfInBounds_toArray, List.set_cons_zero, List.set_cons_succ]
          refine wpR_take 7 (v := ?_) (only2_moves g1 g2) (by decide) (by kernel_rfl) (by kernel_rfl) (by kernel_rfl) (fun _ _ _ h => h) (wantedT (by rfl) ?_) ?_ ; rotate_left ; · ( intro w' hR ; simp only [List.getElem_cons_succ, List.getElem_cons_zero] ; go_simp ; try with_reducible rfl )
          simp only [Act.put, List.getElem_cons_succ, List.getElem_cons_zero, List.setIfInBounds_toArray, List.set_cons_zero, List.set_cons_succ]
          refine wpR_take 8 (v := ?_) (only2_moves g1 g2) (by decide) (by kernel_rfl) (by kernel_rfl) (by kernel_rfl) (fun _ _ _ h => h) (wantedT (by rfl) ?_) ?_ ; rotate_left ; · ( intro w' hR ; simp only [List.getElem_cons_succ, List.getElem_cons_zero] ; go_simp ; try with_reducible rfl )
          simp only [Act.put, List.getElem_cons_succ, List.getElem_cons_zero, List.setIfInBounds_toArray, List.set_cons_zero, List.set_cons_succ]
          refine wpR_take 10 (v := ?_) (only2_moves g1 g2) (by decide) (by kernel_rfl) (by kernel_rfl) (by kernel_rfl) (fun _ _ _ h => h) (wantedT (by rfl) ?_) ?_ ; rotate_left ; · ( intro w' hR ; simp only [List.getElem_cons_succ, List.getElem_cons_zero] ; go_simp ; try with_reducible rfl )
          simp only [Act.put, List.getElem_cons_succ, List.getElem_cons_zero, List.setIfInBounds_toArray, List.set_cons_zero, List.set_cons_succ]
          refine wpR_take 11 (v := ?_) (only2_moves g1 g2) (by decide) (by kernel_rfl) (by kernel_rfl) (by kernel_rfl) (fun _ _ _ h => h) (wantedT (by rfl) ?_) ?_ ; rotate_left ; · ( intro w' hR ; simp only [List.getElem_cons_succ, List.getElem_cons_zero] ; go_simp ; try with_reducible rfl )
          simp only [Act.put, List.getElem_cons_succ, List.getElem_cons_zero, List.setIfInBounds_toArray, List.set_cons_zero, List.set_cons_succ]
          refine wpR_take 12 (v := ?_) (only2_moves g1 g2) (by decide) (by kernel_rfl) (by kernel_rfl) (by kernel_rfl) (fun _ _ _ h => h) (wantedT (by rfl) ?_) ?_ ; rotate_left ; · ( intro w' hR ; simp only [List.getElem_cons_succ, List.getElem_cons_zero] ; go_simp ; try with_reducible rfl )
          simp only [Act.put, List.getElem_cons_succ, List.getElem_cons_zero, List.setIfInBounds_toArray, List.set_cons_zero, List.set_cons_succ]
          refine wpR_two 9 13 (only2_moves g1 g2) (by kernel_rfl) ?_ ?_
          · refine wpS_call (by decide) (by rfl) ((done_any g1 bd l true _ hw0.drew).mono ?_) (fun _ => by simp only [List.getElem_cons_succ, List.getElem_cons_zero] ; go_simp)
            rintro e w3 ⟨rfl, kk, rfl⟩
            rw [HD.out]
            refine ⟨_, rfl, only2_l (grown_drewN' (grown_refl' _ _) _), ?_⟩
            simp only [Act.put, List.getElem_cons_succ, List.getElem_cons_zero, List.setIfInBounds_toArray, List.set_cons_zero, List.set_cons_succ]
            refine wpR_one 13 (only2_moves g1 g2) (by kernel_rfl) ?_
            refine wpS_read (v := .bool true) (only2_moves g1 g2) (by decide) (by rfl) ?_ ?_ ; · ( simp only [List.getElem_cons_succ, List.getElem_cons_zero] ; have q := hbm.drew.cell 1 ; simp at q ; go_simp )
            simp only [Act.put, List.getElem_cons_succ, List.getElem_cons_zero, List.setIfInBounds_toArray, List.set_cons_zero, List.set_cons_succ]
            refine wpR_take 14 (v := ?_) (only2_moves g1 g2) (by decide) (by kernel_rfl) (by kernel_rfl) (by kernel_rfl) (fun _ _ _ h => h) (wantedT (by rfl) ?_) ?_ ; rotate_left ; · ( intro w' hR ; simp only [List.getElem_cons_succ, List.getElem_cons_zero] ; go_simp ; try with_reducible rfl )
            simp only [Act.put, List.getElem_cons_succ, List.getElem_cons_zero, List.setIfInBounds_toArray, List.set_cons_zero, List.set_cons_succ]
            refine wpR_take 15 (v := ?_) (only2_moves g1 g2) (by decide) (by kernel_rfl) (by kernel_rfl) (by kernel_rfl) (fun _ _ _ h => h) (wantedT (by rfl) ?_) ?_ ; rotate_left ; · ( intro w' hR ; simp only [List.getElem_cons_succ, List.getElem_cons_zero] ; go_simp ; try with_reducible rfl )
            simp only [Act.put, List.getElem_cons_succ, List.getElem_cons_zero, List.setIfInBounds_toArray, List.set_cons_zero, List.set_cons_succ]
            refine wpR_take 16 (v := undef) (only2_moves g1 g2) (by decide) (by kernel_rfl) (by kernel_rfl) (by kernel_rfl) (fun _ _ _ h => h) (wantedF (by rfl)) ?_
            simp only [Act.put, List.getElem_cons_succ, List.getElem_cons_zero, List.setIfInBounds_toArray, List.set_cons_zero, List.set_cons_succ]
            refine wpR_take 17 (v := undef) (only2_moves g1 g2) (by decide) (by kernel_rfl) (by kernel_rfl) (by kernel_rfl) (fun _ _ _ h => h) (wantedF (by rfl)) ?_
            simp only [Act.put, List.getElem_cons_succ, List.getElem_cons_zero, List.setIfInBounds_toArray, List.set_cons_zero, List.set_cons_succ]
            refine wpR_take 18 (v := undef) (only2_moves g1 g2) (by decide) (by kernel_rfl) (by kernel_rfl) (by kernel_rfl) (fun _ _ _ h => h) (wantedF (by rfl)) ?_
            simp only [Act.put, List.getElem_cons_succ, List.getElem_cons_zero, List.setIfInBounds_toArray, List.set_cons_zero, List.set_cons_succ]
            refine wpR_take 19 (v := undef) (only2_moves g1 g2) (by decide) (by kernel_rfl) (by kernel_rfl) (by kernel_rfl) (fun _ _ _ h => h) (wantedF (by rfl)) ?_
            simp only [Act.put, List.getElem_cons_succ, List.getElem_cons_zero, List.setIfInBounds_toArray, List.set_cons_zero, List.set_cons_succ]
            refine wpR_take 20 (v := undef) (only2_moves g1 g2) (by decide) (by kernel_rfl) (by kernel_rfl) (by kernel_rfl) (fun _ _ _ h => h) (wantedF (by rfl)) ?_
            simp only [Act.put, List.getElem_cons_succ, List.getElem_cons_zero, List.setIfInBounds_toArray, List.set_cons_zero, List.set_cons_succ]
            refine wpR_take 21 (v := undef) (only2_moves g1 g2) (by decide) (by kernel_rfl) (by kernel_rfl) (by kernel_rfl) (fun _ _ _ h => h) (wantedF (by rfl)) ?_
            simp only [Act.put, List.getElem_cons_succ, List.getElem_cons_zero, List.setIfInBounds_toArray, List.set_cons_zero, List.set_cons_succ]
            refine wpR_take 22 (v := ?_) (only2_moves g1 g2) (by decide) (by kernel_rfl) (by kernel_rfl) (by kernel_rfl) (fun _ _ _ h => h) (wantedT (by rfl) ?_) ?_ ; rotate_left ; · ( intro w' hR ; simp only [List.getElem_cons_succ, List.getElem_cons_zero] ; go_simp ; try with_reducible rfl )
            simp only [Act.put, List.getElem_cons_succ, List.getElem_cons_zero, List.setIfInBounds_toArray, List.set_cons_zero, List.set_cons_succ]
            refine wpR_take 23 (v := ?_) (only2_moves g1 g2) (by decide) (by kernel_rfl) (by kernel_rfl) (by kernel_rfl) (fun _ _ _ h => h) (wantedT (by rfl) ?_) ?_ ; rotate_left ; · ( intro w' hR ; simp only [List.getElem_cons_succ, List.getElem_cons_zero] ; go_simp ; try with_reducible rfl )
            simp only [Act.put, List.getElem_cons_succ, List.getElem_cons_zero, List.setIfInBounds_toArray, List.set_cons_zero, List.set_cons_succ]
            refine wpR_take 24 (v := ?_) (only2_moves g1 g2) (by decide) (by kernel_rfl) (by kernel_rfl) (by kernel_rfl) (fun _ _ _ h => h) (wantedT (by rfl) ?_) ?_ ; rotate_left ; · ( intro w' hR ; simp only [List.getElem_cons_succ, List.getElem_cons_zero] ; go_simp ; try with_reducible rfl )
            simp only [Act.put, List.getElem_cons_succ, List.getElem_cons_zero, List.setIfInBounds_toArray, List.set_cons_zero, List.set_cons_succ]
            refine wpR_take 25 (v := ?_) (only2_moves g1 g2) (by decide) (by kernel_rfl) (by kernel_rfl) (by kernel_rfl) (fun _ _ _ h => h) (wantedT (by rfl) ?_) ?_ ; rotate_left ; · ( intro w' hR ; simp only [List.getElem_cons_succ, List.getElem_cons_zero] ; go_simp ; try with_reducible rfl )
            simp only [Act.put, List.getElem_cons_succ, List.getElem_cons_zero, List.setIfInBounds_toArray, List.set_cons_zero, List.set_cons_succ]
            refine wpR_done (by kernel_rfl) ?_
            have hbF := below_drewN' hb0.drew kk
            clear hw0 hm0 hbm hb0
            go_wp2
            go_ret
            exact ⟨by simp, hbF⟩
          · refine wpS_read (v := .bool true) (only2_moves g1 g2) (by decide) (by rfl) ?_ ?_ ; · ( simp only [List.getElem_cons_succ, List.getElem_cons_zero] ; have q := hbm.drew.cell 1 ; simp at q ; go_simp )
            simp only [Act.put, List.getElem_cons_succ, List.getElem_cons_zero, List.setIfInBounds_toArray, List.set_cons_zero, List.set_cons_succ]
            refine wpR_take 14 (v := ?_) (only2_moves g1 g2) (by decide) (by kernel_rfl) (by kernel_rfl) (by kernel_rfl) (fun _ _ _ h => h) (wantedT (by rfl) ?_) ?_ ; rotate_left ; · ( intro w' hR ; simp only [List.getElem_cons_succ, List.getElem_cons_zero] ; go_simp ; try with_reducible rfl )
            simp only [Act.put, List.getElem_cons_succ, List.getElem_cons_zero, List.setIfInBounds_toArray, List.set_cons_zero, List.set_cons_succ]
            refine wpR_one 9 (only2_moves g1 g2) (by kernel_rfl) ?_
            refine wpS_call (by decide) (by rfl) ((done_any g1 bd l true _ hw0.drew).mono ?_) (fun _ => by simp only [List.getElem_cons_succ, List.getElem_cons_zero] ; go_simp)
            rintro e w3 ⟨rfl, kk, rfl⟩
            rw [HD.out]
            refine ⟨_, rfl, only2_l (grown_drewN' (grown_refl' _ _) _), ?_⟩
            simp only [Act.put, List.getElem_cons_succ, List.getElem_cons_zero, List.setIfInBounds_toArray, List.set_cons_zero, List.set_cons_succ]
            refine wpR_take 15 (v := ?_) (only2_moves g1 g2) (by decide) (by kernel_rfl) (by kernel_rfl) (by kernel_rfl) (fun _ _ _ h => h) (wantedT (by rfl) ?_) ?_ ; rotate_left ; · ( intro w' hR ; simp only [List.getElem_cons_succ, List.getElem_cons_zero] ; go_simp ; try with_reducible rfl )
            simp only [Act.put, List.getElem_cons_succ, List.getElem_cons_zero, List.setIfInBounds_toArray, List.set_cons_zero, List.set_cons_succ]
            refine wpR_take 16 (v := undef) (only2_moves g1 g2) (by decide) (by kernel_rfl) (by kernel_rfl) (by kernel_rfl) (fun _ _ _ h => h) (wantedF (by rfl)) ?_
            simp only [Act.put, List.getElem_cons_succ, List.getElem_cons_zero, List.setIfInBounds_toArray, List.set_cons_zero, List.set_cons_succ]
            refine wpR_take 17 (v := undef) (only2_moves g1 g2) (by decide) (by kernel_rfl) (by kernel_rfl) (by kernel_rfl) (fun _ _ _ h => h) (wantedF (by rfl)) ?_
            simp only [Act.put, List.getElem_cons_succ, List.getElem_cons_zero, List.setIfInBounds_toArray, List.set_cons_zero, List.set_cons_succ]
            refine wpR_take 18 (v := undef) (only2_moves g1 g2) (by decide) (by kernel_rfl) (by kernel_rfl) (by kernel_rfl) (fun _ _ _ h => h) (wantedF (by rfl)) ?_
            simp only [Act.put, List.getElem_cons_succ, List.getElem_cons_zero, List.setIfInBounds_toArray, List.set_cons_zero, List.set_cons_succ]
            refine wpR_take 19 (v := undef) (only2_moves g1 g2) (by decide) (by kernel_rfl) (by kernel_rfl) (by kernel_rfl) (fun _ _ _ h => h) (wantedF (by rfl)) ?_
            simp only [Act.put, List.getElem_cons_succ, List.getElem_cons_zero, List.setIfInBounds_toArray, List.set_cons_zero, List.set_cons_succ]
            refine wpR_take 20 (v := undef) (only2_moves g1 g2) (by decide) (by kernel_rfl) (by kernel_rfl) (by kernel_rfl) (fun _ _ _ h => h) (wantedF (by rfl)) ?_
            simp only [Act.put, List.getElem_cons_succ, List.getElem_cons_zero, List.setIfInBounds_toArray, List.set_cons_zero, List.set_cons_succ]
            refine wpR_take 21 (v := undef) (only2_moves g1 g2) (by decide) (by kernel_rfl) (by kernel_rfl) (by kernel_rfl) (fun _ _ _ h => h) (wantedF (by rfl)) ?_
            simp only [Act.put, List.getElem_cons_succ, List.getElem_cons_zero, List.setIfInBounds_toArray, List.set_cons_zero, List.set_cons_succ]
            refine wpR_take 22 (v := ?_) (only2_moves g1 g2) (by decide) (by kernel_rfl) (by kernel_rfl) (by kernel_rfl) (fun _ _ _ h => h) (wantedT (by rfl) ?_) ?_ ; rotate_left ; · ( intro w' hR ; simp only [List.getElem_cons_succ, List.getElem_cons_zero] ; go_simp ; try with_reducible rfl )
            simp only [Act.put, List.getElem_cons_succ, List.getElem_cons_zero, List.setIfInBounds_toArray, List.set_cons_zero, List.set_cons_succ]
            refine wpR_take 23 (v := ?_) (only2_moves g1 g2) (by decide) (by kernel_rfl) (by kernel_rfl) (by kernel_rfl) (fun _ _ _ h => h) (wantedT (by rfl) ?_) ?_ ; rotate_left ; · ( intro w' hR ; simp only [List.getElem_cons_succ, List.getElem_cons_zero] ; go_simp ; try with_reducible rfl )
            simp only [Act.put, List.getElem_cons_succ, List.getElem_cons_zero, List.setIfInBounds_toArray, List.set_cons_zero, List.set_cons_succ]
            refine wpR_take 24 (v := ?_) (only2_moves g1 g2) (by decide) (by kernel_rfl) (by kernel_rfl) (by kernel_rfl) (fun _ _ _ h => h) (wantedT (by rfl) ?_) ?_ ; rotate_left ; · ( intro w' hR ; simp only [List.getElem_cons_succ, List.getElem_cons_zero] ; go_simp ; try with_reducible rfl )
            simp only [Act.put, List.getElem_cons_succ, List.getElem_cons_zero, List.setIfInBounds_toArray, List.set_cons_zero, List.set_cons_succ]
            refine wpR_take 25 (v := ?_) (only2_moves g1 g2) (by decide) (by kernel_rfl) (by kernel_rfl) (by kernel_rfl) (fun _ _ _ h => h) (wantedT (by rfl) ?_) ?_ ; rotate_left ; · ( intro w' hR ; simp only [List.getElem_cons_succ, List.getElem_cons_zero] ; go_simp ; try with_reducible rfl )
            simp only [Act.put, List.getElem_cons_succ, List.getElem_cons_zero, List.setIfInBounds_toArray, List.set_cons_zero, List.set_cons_succ]
            refine wpR_done (by kernel_rfl) ?_
            have hbF := below_drewN' hb0.drew kk
            clear hw0 hm0 hbm hb0
            go_wp2
            go_ret
            exact ⟨by simp, hbF⟩
      | false =>
        by_cases hle : l = []
        · have HLe := Lib.hid hle
          clear hle
          have HD : Hid ((!false && l.isEmpty) = true) := by show _ = _ ; rw [HLe.out] ; rfl
          have hz : ((n2 : Int) == 0) = true := by rw [beq_iff_eq] ; have := HLn.out ; rw [HLe.out] at this ; simp at this ; omega
          go_wp2_with fail
          refine wpR_begin (Only2 g1 g2) (by kernel_rfl) ?_
          refine wpR_take 0 (v := ?_) (only2_moves g1 g2) (by decide) (by kernel_rfl) (by kernel_rfl) (by kernel_rfl) (fun _ _ _ h => h) (wantedT (by rfl) ?_) ?_ ; rotate_left ; · ( intro w' hR ; simp only [List.getElem_cons_succ, List.getElem_cons_zero] ; go_simp ; try with_reducible rfl )
          simp only [Act.put, List.getElem_cons_succ, List.getElem_cons_zero, List.setIfInBounds_toArray, List.set_cons_zero, List.set_cons_succ]
          refine wpR_take 2 (v := ?_) (only2_moves g1 g2) (by decide) (by kernel_rfl) (by kernel_rfl) (by kernel_rfl) (fun _ _ _ h => h) (wantedT (by rfl) ?_) ?_ ; rotate_left ; · ( intro w' hR ; simp only [List.getElem_cons_succ, List.getElem_cons_zero] ; go_simp ; try with_reducible rfl )
          simp only [Act.put, List.getElem_cons_succ, List.getElem_cons_zero, List.setIfInBounds_toArray, List.set_cons_zero, List.set_cons_succ]
          refine wpR_take 3 (v := ?_) (only2_moves g1 g2) (by decide) (by kernel_rfl) (by kernel_rfl) (by kernel_rfl) (fun _ _ _ h => h) (wantedT (by rfl) ?_) ?_ ; rotate_left ; · ( intro w' hR ; simp only [List.getElem_cons_succ, List.getElem_cons_zero] ; go_simp ; try with_reducible rfl )
          simp only [Act.put, List.getElem_cons_succ, List.getElem_cons_zero, List.setIfInBounds_toArray, List.set_cons_zero, List.set_cons_succ]
          refine wpR_take 4 (v := ?_) (only2_moves g1 g2) (by decide) (by kernel_rfl) (by kernel_rfl) (by kernel_rfl) (fun _ _ _ h => h) (wantedT (by rfl) ?_) ?_ ; rotate_left ; · ( intro w' hR ; simp only [List.getElem_cons_succ, List.getElem_cons_zero] ; go_simp ; try with_reducible rfl )
          simp only [Act.put, List.getElem_cons_succ, List.getElem_cons_zero, List.setIfInBounds_toArray, List.set_cons_zero, List.set_cons_succ]
          refine wpR_two 1 5 (only2_moves g1 g2) (by kernel_rfl) ?_ ?_
          · refine wpS_call (by decide) (by rfl) ((failed_any g1 bd l false _ hw0.drew).mono ?_) (fun _ => by simp only [List.getElem_cons_succ, List.getElem_cons_zero] ; go_simp)
            rintro e w2 ⟨rfl, rfl⟩
            refine ⟨_, rfl, (only2_moves g1 g2).refl _, ?_⟩
            simp only [Act.put, List.getElem_cons_succ, List.getElem_cons_zero, List.setIfInBounds_toArray, List.set_cons_zero, List.set_cons_succ]
            refine wpR_one 5 (only2_moves g1 g2) (by kernel_rfl) ?_
            refine wpS_read (v := .bool false) (only2_moves g1 g2) (by decide) (by rfl) ?_ ?_ ; · ( simp only [List.getElem_cons_succ, List.getElem_cons_zero] ; have q := hbm.drew.cell 1 ; simp at q ; go_simp )
            simp only [Act.put, List.getElem_cons_succ, List.getElem_cons_zero, List.setIfInBounds_toArray, List.set_cons_zero, List.set_cons_succ]
            refine wpR_take 6 (v := ?_) (only2_moves g1 g2) (by decide) (by kernel_rfl) (by kernel_rfl) (by kernel_rfl) (fun _ _ _ h => h) (wantedT (by rfl) ?_) ?_ ; rotate_left ; · ( intro w' hR ; simp only [List.getElem_cons_succ, List.getElem_cons_zero] ; go_simp ; try with_reducible rfl )
            simp only [Act.put, List.getElem_cons_succ, List.getElem_cons_zero, List.setIfInBounds_toArray, List.set_cons_zero, List.set_cons_succ]
            refine wpR_take 7 (v := ?_) (only2_moves g1 g2) (by decide) (by kernel_rfl) (by kernel_rfl) (by kernel_rfl) (fun _ _ _ h => h) (wantedT (by rfl) ?_) ?_ ; rotate_left ; · ( intro w' hR ; simp only [List.getElem_cons_succ, List.getElem_cons_zero] ; go_simp ; try with_reducible rfl )
            simp only [Act.put, List.getElem_cons_succ, List.getElem_cons_zero, List.setIfInBounds_toArray, List.set_cons_zero, List.set_cons_succ]
            refine wpR_take 8 (v := ?_) (only2_moves g1 g2) (by decide) (by kernel_rfl) (by kernel_rfl) (by kernel_rfl) (fun _ _ _ h => h) (wantedT (by rfl) ?_) ?_ ; rotate_left ; · ( intro w' hR ; simp only [List.getElem_cons_succ, List.getElem_cons_zero] ; go_simp ; try with_reducible rfl )
            simp only [Act.put, List.getElem_cons_succ, List.getElem_cons_zero, List.setIfInBounds_toArray, List.set_cons_zero, List.set_cons_succ]
            refine wpR_take 10 (v := ?_) (only2_moves g1 g2) (by decide) (by kernel_rfl) (by kernel_rfl) (by kernel_rfl) (fun _ _ _ h => h) (wantedT (by rfl) ?_) ?_ ; rotate_left ; · ( intro w' hR ; simp only [List.getElem_cons_succ, List.getElem_cons_zero] ; go_simp ; try with_reducible rfl )
            simp only [Act.put, List.getElem_cons_succ, List.getElem_cons_zero, List.setIfInBounds_toArray, List.set_cons_zero, List.set_cons_succ]
            refine wpR_take 11 (v := ?_) (only2_moves g1 g2) (by decide) (by kernel_rfl) (by kernel_rfl) (by kernel_rfl) (fun _ _ _ h => h) (wantedT (by rfl) ?_) ?_ ; rotate_left ; · ( intro w' hR ; simp only [List.getElem_cons_succ, List.getElem_cons_zero] ; go_simp ; try with_reducible rfl )
            simp only [Act.put, List.getElem_cons_succ, List.getElem_cons_zero, List.setIfInBounds_toArray, List.set_cons_zero, List.set_cons_succ]
            refine wpR_take 12 (v := ?_) (only2_moves g1 g2) (by decide) (by kernel_rfl) (by kernel_rfl) (by kernel_rfl) (fun _ _ _ h => h) (wantedT (by rfl) ?_) ?_ ; rotate_left ; · ( intro w' hR ; simp only [List.getElem_cons_succ, List.getElem_cons_zero] ; go_simp ; try with_reducible rfl )
            simp only [Act.put, List.getElem_cons_succ, List.getElem_cons_zero, List.setIfInBounds_toArray, List.set_cons_zero, List.set_cons_succ]
            refine wpR_two 9 13 (only2_moves g1 g2) (by kernel_rfl) ?_ ?_
            · refine wpS_call (by decide) (by rfl) ((done_any g1 bd l false _ hw0.drew).mono ?_) (fun _ => by simp only [List.getElem_cons_succ, List.getElem_cons_zero] ; go_simp)
              rintro e w3 ⟨rfl, kk, rfl⟩
              rw [HD.out]
              refine ⟨_, rfl, only2_l (grown_drewN' (grown_refl' _ _) _), ?_⟩
              simp only [Act.put, List.getElem_cons_succ, List.getElem_cons_zero, List.setIfInBounds_toArray, List.set_cons_zero, List.set_cons_succ]
              refine wpR_one 13 (only2_moves g1 g2) (by kernel_rfl) ?_
              refine wpS_read (v := .bool false) (only2_moves g1 g2) (by decide) (by rfl) ?_ ?_ ; · ( simp only [List.getElem_cons_succ, List.getElem_cons_zero] ; have q := hbm.drew.cell 1 ; simp at q ; go_simp )
              simp only [Act.put, List.getElem_cons_succ, List.getElem_cons_zero, List.setIfInBounds_toArray, List.set_cons_zero, List.set_cons_succ]
              refine wpR_take 14 (v := ?_) (only2_moves g1 g2) (by decide) (by kernel_rfl) (by kernel_rfl) (by kernel_rfl) (fun _ _ _ h => h) (wantedT (by rfl) ?_) ?_ ; rotate_left ; · ( intro w' hR ; simp only [List.getElem_cons_succ, List.getElem_cons_zero] ; go_simp ; try with_reducible rfl )
              simp only [Act.put, List.getElem_cons_succ, List.getElem_cons_zero, List.setIfInBounds_toArray, List.set_cons_zero, List.set_cons_succ]
              refine wpR_take 15 (v := ?_) (only2_moves g1 g2) (by decide) (by kernel_rfl) (by kernel_rfl) (by kernel_rfl) (fun _ _ _ h => h) (wantedT (by rfl) ?_) ?_ ; rotate_left ; · ( intro w' hR ; simp only [List.getElem_cons_succ, List.getElem_cons_zero] ; go_simp ; try with_reducible rfl )
              simp only [Act.put, List.getElem_cons_succ, List.getElem_cons_zero, List.setIfInBounds_toArray, List.set_cons_zero, List.set_cons_succ]
              refine wpR_take 16 (v := ?_) (only2_moves g1 g2) (by decide) (by kernel_rfl) (by kernel_rfl) (by kernel_rfl) (fun _ _ _ h => h) (wantedT (by rfl) ?_) ?_ ; rotate_left ; · ( intro w' hR ; simp only [List.getElem_cons_succ, List.getElem_cons_zero] ; go_simp ; try with_reducible rfl )
              simp only [Act.put, List.getElem_cons_succ, List.getElem_cons_zero, List.setIfInBounds_toArray, List.set_cons_zero, List.set_cons_succ]
              refine wpR_take 17 (v := ?_) (only2_moves g1 g2) (by decide) (by kernel_rfl) (by kernel_rfl) (by kernel_rfl) (fun _ _ _ h => h) (wantedT (by rfl) ?_) ?_ ; rotate_left ; · ( intro w' hR ; simp only [List.getElem_cons_succ, List.getElem_cons_zero] ; go_simp ; try with_reducible rfl )
              simp only [Act.put, List.getElem_cons_succ, List.getElem_cons_zero, List.setIfInBounds_toArray, List.set_cons_zero, List.set_cons_succ]
              refine wpR_take 18 (v := ?_) (only2_moves g1 g2) (by decide) (by kernel_rfl) (by kernel_rfl) (by kernel_rfl) (fun _ _ _ h => h) (wantedT (by rfl) ?_) ?_ ; rotate_left ; · ( intro w' hR ; simp only [List.getElem_cons_succ, List.getElem_cons_zero] ; go_simp ; try with_reducible rfl )
              simp only [Act.put, List.getElem_cons_succ, List.getElem_cons_zero, List.setIfInBounds_toArray, List.set_cons_zero, List.set_cons_succ]
              refine wpR_one 19 (only2_moves g1 g2) (by kernel_rfl) ?_
              refine wpS_read (v := .slice A2 n2 c2) (only2_moves g1 g2) (by decide) (by rfl) ?_ ?_ ; · ( simp only [List.getElem_cons_succ, List.getElem_cons_zero] ; have q := hbm.drew.cell 0 ; simp at q ; go_simp )
              simp only [Act.put, List.getElem_cons_succ, List.getElem_cons_zero, List.setIfInBounds_toArray, List.set_cons_zero, List.set_cons_succ]
              refine wpR_take 20 (v := ?_) (only2_moves g1 g2) (by decide) (by kernel_rfl) (by kernel_rfl) (by kernel_rfl) (fun _ _ _ h => h) (wantedT (by rfl) ?_) ?_ ; rotate_left ; · ( intro w' hR ; simp only [List.getElem_cons_succ, List.getElem_cons_zero] ; go_simp ; try with_reducible rfl )
              simp only [Act.put, List.getElem_cons_succ, List.getElem_cons_zero, List.setIfInBounds_toArray, List.set_cons_zero, List.set_cons_succ]
              refine wpR_take 21 (v := ?_) (only2_moves g1 g2) (by decide) (by kernel_rfl) (by kernel_rfl) (by kernel_rfl) (fun _ _ _ h => h) (wantedT (by rfl) ?_) ?_ ; rotate_left ; · ( intro w' hR ; simp only [List.getElem_cons_succ, List.getElem_cons_zero] ; go_simp ; try with_reducible rfl )
              simp only [Act.put, List.getElem_cons_succ, List.getElem_cons_zero, List.setIfInBounds_toArray, List.set_cons_zero, List.set_cons_succ]
              refine wpR_take 22 (v := ?_) (only2_moves g1 g2) (by decide) (by kernel_rfl) (by kernel_rfl) (by kernel_rfl) (fun _ _ _ h => h) (wantedT (by rfl) ?_) ?_ ; rotate_left ; · ( intro w' hR ; simp only [List.getElem_cons_succ, List.getElem_cons_zero] ; go_simp ; try with_reducible rfl )
              simp only [Act.put, List.getElem_cons_succ, List.getElem_cons_zero, List.setIfInBounds_toArray, List.set_cons_zero, List.set_cons_succ]
              refine wpR_take 23 (v := ?_) (only2_moves g1 g2) (by decide) (by kernel_rfl) (by kernel_rfl) (by kernel_rfl) (fun _ _ _ h => h) (wantedT (by rfl) ?_) ?_ ; rotate_left ; · ( intro w' hR ; simp only [List.getElem_cons_succ, List.getElem_cons_zero] ; go_simp ; try with_reducible rfl )
              simp only [Act.put, List.getElem_cons_succ, List.getElem_cons_zero, List.setIfInBounds_toArray, List.set_cons_zero, List.set_cons_succ]
              refine wpR_take 24 (v := ?_) (only2_moves g1 g2) (by decide) (by kernel_rfl) (by kernel_rfl) (by kernel_rfl) (fun _ _ _ h => h) (wantedT (by rfl) ?_) ?_ ; rotate_left ; · ( intro w' hR ; simp only [List.getElem_cons_succ, List.getElem_cons_zero] ; go_simp ; try with_reducible rfl )
              simp only [Act.put, List.getElem_cons_succ, List.getElem_cons_zero, List.setIfInBounds_toArray, List.set_cons_zero, List.set_cons_succ]
              refine wpR_take 25 (v := ?_) (only2_moves g1 g2) (by decide) (by kernel_rfl) (by kernel_rfl) (by kernel_rfl) (fun _ _ _ h => h) (wantedT (by rfl) ?_) ?_ ; rotate_left ; · ( intro w' hR ; simp only [List.getElem_cons_succ, List.getElem_cons_zero] ; go_simp ; try with_reducible rfl )
              simp only [Act.put, List.getElem_cons_succ, List.getElem_cons_zero, List.setIfInBounds_toArray, List.set_cons_zero, List.set_cons_succ]
              refine wpR_done (by kernel_rfl) ?_
              have hbF := below_drewN' hb0.drew kk
              clear hw0 hm0 hbm hb0
              go_wp2
              go_ret
              exact ⟨by simp, hbF⟩
            · refine wpS_read (v := .bool false) (only2_moves g1 g2) (by decide) (by rfl) ?_ ?_ ; · ( simp only [List.getElem_cons_succ, List.getElem_cons_zero] ; have q := hbm.drew.cell 1 ; simp at q ; go_simp )
              simp only [Act.put, List.getElem_cons_succ, List.getElem_cons_zero, List.setIfInBounds_toArray, List.set_cons_zero, List.set_cons_succ]
              refine wpR_take 14 (v := ?_) (only2_moves g1 g2) (by decide) (by kernel_rfl) (by kernel_rfl) (by kernel_rfl) (fun _ _ _ h => h) (wantedT (by rfl) ?_) ?_ ; rotate_left ; · ( intro w' hR ; simp only [List.getElem_cons_succ, List.getElem_cons_zero] ; go_simp ; try with_reducible rfl )
              simp only [Act.put, List.getElem_cons_succ, List.getElem_cons_zero, List.setIfInBounds_toArray, List.set_cons_zero, List.set_cons_succ]
              refine wpR_one 9 (only2_moves g1 g2) (by kernel_rfl) ?_
              refine wpS_call (by decide) (by rfl) ((done_any g1 bd l false _ hw0.drew).mono ?_) (fun _ => by simp only [List.getElem_cons_succ, List.getElem_cons_zero] ; go_simp)
              rintro e w3 ⟨rfl, kk, rfl⟩
              rw [HD.out]
              refine ⟨_, rfl, only2_l (grown_drewN' (grown_refl' _ _) _), ?_⟩
              simp only [Act.put, List.getElem_cons_succ, List.getElem_cons_zero, List.setIfInBounds_toArray, List.set_cons_zero, List.set_cons_succ]
              refine wpR_take 15 (v := ?_) (only2_moves g1 g2) (by decide) (by kernel_rfl) (by kernel_rfl) (by kernel_rfl) (fun _ _ _ h => h) (wantedT (by rfl) ?_) ?_ ; rotate_left ; · ( intro w' hR ; simp only [List.getElem_cons_succ, List.getElem_cons_zero] ; go_simp ; try with_reducible rfl )
              simp only [Act.put, List.getElem_cons_succ, List.getElem_cons_zero, List.setIfInBounds_toArray, List.set_cons_zero, List.set_cons_succ]
              refine wpR_take 16 (v := ?_) (only2_moves g1 g2) (by decide) (by kernel_rfl) (by kernel_rfl) (by kernel_rfl) (fun _ _ _ h => h) (wantedT (by rfl) ?_) ?_ ; rotate_left ; · ( intro w' hR ; simp only [List.getElem_cons_succ, List.getElem_cons_zero] ; go_simp ; try with_reducible rfl )
              simp only [Act.put, List.getElem_cons_succ, List.getElem_cons_zero, List.setIfInBounds_toArray, List.set_cons_zero, List.set_cons_succ]
              refine wpR_take 17 (v := ?_) (only2_moves g1 g2) (by decide) (by kernel_rfl) (by kernel_rfl) (by kernel_rfl) (fun _ _ _ h => h) (wantedT (by rfl) ?_) ?_ ; rotate_left ; · ( intro w' hR ; simp only [List.getElem_cons_succ, List.getElem_cons_zero] ; go_simp ; try with_reducible rfl )
              simp only [Act.put, List.getElem_cons_succ, List.getElem_cons_zero, List.setIfInBounds_toArray, List.set_cons_zero, List.set_cons_succ]
              refine wpR_take 18 (v := ?_) (only2_moves g1 g2) (by decide) (by kernel_rfl) (by kernel_rfl) (by kernel_rfl) (fun _ _ _ h => h) (wantedT (by rfl) ?_) ?_ ; rotate_left ; · ( intro w' hR ; simp only [List.getElem_cons_succ, List.getElem_cons_zero] ; go_simp ; try with_reducible rfl )
              simp only [Act.put, List.getElem_cons_succ, List.getElem_cons_zero, List.setIfInBounds_toArray, List.set_cons_zero, List.set_cons_succ]
              refine wpR_one 19 (only2_moves g1 g2) (by kernel_rfl) ?_
              refine wpS_read (v := .slice A2 n2 c2) (only2_moves g1 g2) (by decide) (by rfl) ?_ ?_ ; · ( simp only [List.getElem_cons_succ, List.getElem_cons_zero] ; have q := hbm.drew.cell 0 ; simp at q ; go_simp )
              simp only [Act.put, List.getElem_cons_succ, List.getElem_cons_zero, List.setIfInBounds_toArray, List.set_cons_zero, List.set_cons_succ]
              refine wpR_take 20 (v := ?_) (only2_moves g1 g2) (by decide) (by kernel_rfl) (by kernel_rfl) (by kernel_rfl) (fun _ _ _ h => h) (wantedT (by rfl) ?_) ?_ ; rotate_left ; · ( intro w' hR ; simp only [List.getElem_cons_succ, List.getElem_cons_zero] ; go_simp ; try with_reducible rfl )
              simp only [Act.put, List.getElem_cons_succ, List.getElem_cons_zero, List.setIfInBounds_toArray, List.set_cons_zero, List.set_cons_succ]
              refine wpR_take 21 (v := ?_) (only2_moves g1 g2) (by decide) (by kernel_rfl) (by kernel_rfl) (by kernel_rfl) (fun _ _ _ h => h) (wantedT (by rfl) ?_) ?_ ; rotate_left ; · ( intro w' hR ; simp only [List.getElem_cons_succ, List.getElem_cons_zero] ; go_simp ; try with_reducible rfl )
              simp only [Act.put, List.getElem_cons_succ, List.getElem_cons_zero, List.setIfInBounds_toArray, List.set_cons_zero, List.set_cons_succ]
              refine wpR_take 22 (v := ?_) (only2_moves g1 g2) (by decide) (by kernel_rfl) (by kernel_rfl) (by kernel_rfl) (fun _ _ _ h => h) (wantedT (by rfl) ?_) ?_ ; rotate_left ; · ( intro w' hR ; simp only [List.getElem_cons_succ, List.getElem_cons_zero] ; go_simp ; try with_reducible rfl )
              simp only [Act.put, List.getElem_cons_succ, List.getElem_cons_zero, List.setIfInBounds_toArray, List.set_cons_zero, List.set_cons_succ]
              refine wpR_take 23 (v := ?_) (only2_moves g1 g2) (by decide) (by kernel_rfl) (by kernel_rfl) (by kernel_rfl) (fun _ _ _ h => h) (wantedT (by rfl) ?_) ?_ ; rotate_left ; · ( intro w' hR ; simp only [List.getElem_cons_succ, List.getElem_cons_zero] ; go_simp ; try with_reducible rfl )
              simp only [Act.put, List.getElem_cons_succ, List.getElem_cons_zero, List.setIfInBounds_toArray, List.set_cons_zero, List.set_cons_succ]
              refine wpR_take 24 (v := ?_) (only2_moves g1 g2) (by decide) (by kernel_rfl) (by kernel_rfl) (by kernel_rfl) (fun _ _ _ h => h) (wantedT (by rfl) ?_) ?_ ; rotate_left ; · ( intro w' hR ; simp only [List.getElem_cons_succ, List.getElem_cons_zero] ; go_simp ; try with_reducible rfl )
              simp only [Act.put, List.getElem_cons_succ, List.getElem_cons_zero, List.setIfInBounds_toArray, List.set_cons_zero, List.set_cons_succ]
              refine wpR_take 25 (v := ?_) (only2_moves g1 g2) (by decide) (by kernel_rfl) (by kernel_rfl) (by kernel_rfl) (fun _ _ _ h => h) (wantedT (by rfl) ?_) ?_ ; rotate_left ; · ( intro w' hR ; simp only [List.getElem_cons_succ, List.getElem_cons_zero] ; go_simp ; try with_reducible rfl )
              simp only [Act.put, List.getElem_cons_succ, List.getElem_cons_zero, List.setIfInBounds_toArray, List.set_cons_zero, List.set_cons_succ]
              refine wpR_done (by kernel_rfl) ?_
              have hbF := below_drewN' hb0.drew kk
              clear hw0 hm0 hbm hb0
              go_wp2
              go_ret
              exact ⟨by simp, hbF⟩
          · refine wpS_read (v := .bool false) (only2_moves g1 g2) (by decide) (by rfl) ?_ ?_ ; · ( simp only [List.getElem_cons_succ, List.getElem_cons_zero] ; have q := hbm.drew.cell 1 ; simp at q ; go_simp )
            simp only [Act.put, List.getElem_cons_succ, List.getElem_cons_zero, List.setIfInBounds_toArray, List.set_cons_zero, List.set_cons_succ]
            refine wpR_one 1 (only2_moves g1 g2) (by kernel_rfl) ?_
            refine wpS_call (by decide) (by rfl) ((failed_any g1 bd l false _ hw0.drew).mono ?_) (fun _ => by simp only [List.getElem_cons_succ, List.getElem_cons_zero] ; go_simp)
            rintro e w2 ⟨rfl, rfl⟩
            refine ⟨_, rfl, (only2_moves g1 g2).refl _, ?_⟩
            simp only [Act.put, List.getElem_cons_succ, List.getElem_cons_zero, List.setIfInBounds_toArray, List.set_cons_zero, List.set_cons_succ]
            refine wpR_take 6 (v := ?_) (only2_moves g1 g2) (by decide) (by kernel_rfl) (by kernel_rfl) (by kernel_rfl) (fun _ _ _ h => h) (wantedT (by rfl) ?_) ?_ ; rotate_left ; · ( intro w' hR ; simp only [List.getElem_cons_succ, List.getElem_cons_zero] ; go_simp ; try with_reducible rfl )
            simp only [Act.put, List.getElem_cons_succ, List.getElem_cons_zero, List.setIfInBounds_toArray, List.set_cons_zero, List.set_cons_succ]
            refine wpR_take 7 (v := ?_) (only2_moves g1 g2) (by decide) (by kernel_rfl) (by kernel_rfl) (by kernel_rfl) (fun _ _ _ h => h) (wantedT (by rfl) ?_) ?_ ; rotate_left ; · ( intro w' hR ; simp only [List.getElem_cons_succ, List.getElem_cons_zero] ; go_simp ; try with_reducible rfl )
            simp only [Act.put, List.getElem_cons_succ, List.getElem_cons_zero, List.setIfInBounds_toArray, List.set_cons_zero, List.set_cons_succ]
            refine wpR_take 8 (v := ?_) (only2_moves g1 g2) (by decide) (by kernel_rfl) (by kernel_rfl) (by kernel_rfl) (fun _ _ _ h => h) (wantedT (by rfl) ?_) ?_ ; rotate_left ; · ( intro w' hR ; simp only [List.getElem_cons_succ, List.getElem_cons_zero] ; go_simp ; try with_reducible rfl )
            simp only [Act.put, List.getElem_cons_succ, List.getElem_cons_zero, List.setIfInBounds_toArray, List.set_cons_zero, List.set_cons_succ]
            refine wpR_take 10 (v := ?_) (only2_moves g1 g2) (by decide) (by kernel_rfl) (by kernel_rfl) (by kernel_rfl) (fun _ _ _ h => h) (wantedT (by rfl) ?_) ?_ ; rotate_left ; · ( intro w' hR ; simp only [List.getElem_cons_succ, List.getElem_cons_zero] ; go_simp ; try with_reducible rfl )
            simp only [Act.put, List.getElem_cons_succ, List.getElem_cons_zero, List.setIfInBounds_toArray, List.set_cons_zero, List.set_cons_succ]
            refine wpR_take 11 (v := ?_) (only2_moves g1 g2) (by decide) (by kernel_rfl) (by kernel_rfl) (by kernel_rfl) (fun _ _ _ h => h) (wantedT (by rfl) ?_) ?_ ; rotate_left ; · ( intro w' hR ; simp only [List.getElem_cons_succ, List.getElem_cons_zero] ; go_simp ; try with_reducible rfl )
            simp only [Act.put, List.getElem_cons_succ, List.getElem_cons_zero, List.setIfInBounds_toArray, List.set_cons_zero, List.set_cons_succ]
            refine wpR_take 12 (v := ?_) (only2_moves g1 g2) (by decide) (by kernel_rfl) (by kernel_rfl) (by kernel_rfl) (fun _ _ _ h => h) (wantedT (by rfl) ?_) ?_ ; rotate_left ; · ( intro w' hR ; simp only [List.getElem_cons_succ, List.getElem_cons_zero] ; go_simp ; try with_reducible rfl )
            simp only [Act.put, List.getElem_cons_succ, List.getElem_cons_zero, List.setIfInBounds_toArray, List.set_cons_zero, List.set_cons_succ]
            refine wpR_two 9 13 (only2_moves g1 g2) (by kernel_rfl) ?_ ?_
            · refine wpS_call (by decide) (by rfl) ((done_any g1 bd l false _ hw0.drew).mono ?_) (fun _ => by simp only [List.getElem_cons_succ, List.getElem_cons_zero] ; go_simp)
              rintro e w3 ⟨rfl, kk, rfl⟩
              rw [HD.out]
              refine ⟨_, rfl, only2_l (grown_drewN' (grown_refl' _ _) _), ?_⟩
              simp only [Act.put, List.getElem_cons_succ, List.getElem_cons_zero, List.setIfInBounds_toArray, List.set_cons_zero, List.set_cons_succ]
              refine wpR_one 13 (only2_moves g1 g2) (by kernel_rfl) ?_
              refine wpS_read (v := .bool false) (only2_moves g1 g2) (by decide) (by rfl) ?_ ?_ ; · ( simp only [List.getElem_cons_succ, List.getElem_cons_zero] ; have q := hbm.drew.cell 1 ; simp at q ; go_simp )
              simp only [Act.put, List.getElem_cons_succ, List.getElem_cons_zero, List.setIfInBounds_toArray, List.set_cons_zero, List.set_cons_succ]
              refine wpR_take 14 (v := ?_) (only2_moves g1 g2) (by decide) (by kernel_rfl) (by kernel_rfl) (by kernel_rfl) (fun _ _ _ h => h) (wantedT (by rfl) ?_) ?_ ; rotate_left ; · ( intro w' hR ; simp only [List.getElem_cons_succ, List.getElem_cons_zero] ; go_simp ; try with_reducible rfl )
              simp only [Act.put, List.getElem_cons_succ, List.getElem_cons_zero, List.setIfInBounds_toArray, List.set_cons_zero, List.set_cons_succ]
              refine wpR_take 15 (v := ?_) (only2_moves g1 g2) (by decide) (by kernel_rfl) (by kernel_rfl) (by kernel_rfl) (fun _ _ _ h => h) (wantedT (by rfl) ?_) ?_ ; rotate_left ; · ( intro w' hR ; simp only [List.getElem_cons_succ, List.getElem_cons_zero] ; go_simp ; try with_reducible rfl )
              simp only [Act.put, List.getElem_cons_succ, List.getElem_cons_zero, List.setIfInBounds_toArray, List.set_cons_zero, List.set_cons_succ]
              refine wpR_take 16 (v := ?_) (only2_moves g1 g2) (by decide) (by kernel_rfl) (by kernel_rfl) (by kernel_rfl) (fun _ _ _ h => h) (wantedT (by rfl) ?_) ?_ ; rotate_left ; · ( intro w' hR ; simp only [List.getElem_cons_succ, List.getElem_cons_zero] ; go_simp ; try with_reducible rfl )
              simp only [Act.put, List.getElem_cons_succ, List.getElem_cons_zero, List.setIfInBounds_toArray, List.set_cons_zero, List.set_cons_succ]
              refine wpR_take 17 (v := ?_) (only2_moves g1 g2) (by decide) (by kernel_rfl) (by kernel_rfl) (by kernel_rfl) (fun _ _ _ h => h) (wantedT (by rfl) ?_) ?_ ; rotate_left ; · ( intro w' hR ; simp only [List.getElem_cons_succ, List.getElem_cons_zero] ; go_simp ; try with_reducible rfl )
              simp only [Act.put, List.getElem_cons_succ, List.getElem_cons_zero, List.setIfInBounds_toArray, List.set_cons_zero, List.set_cons_succ]
              refine wpR_take 18 (v := ?_) (only2_moves g1 g2) (by decide) (by kernel_rfl) (by kernel_rfl) (by kernel_rfl) (fun _ _ _ h => h) (wantedT (by rfl) ?_) ?_ ; rotate_left ; · ( intro w' hR ; simp only [List.getElem_cons_succ, List.getElem_cons_zero] ; go_simp ; try with_reducible rfl )
              simp only [Act.put, List.getElem_cons_succ, List.getElem_cons_zero, List.setIfInBounds_toArray, List.set_cons_zero, List.set_cons_succ]
              refine wpR_one 19 (only2_moves g1 g2) (by kernel_rfl) ?_
              refine wpS_read (v := .slice A2 n2 c2) (only2_moves g1 g2) (by decide) (by rfl) ?_ ?_ ; · ( simp only [List.getElem_cons_succ, List.getElem_cons_zero] ; have q := hbm.drew.cell 0 ; simp at q ; go_simp )
              simp only [Act.put, List.getElem_cons_succ, List.getElem_cons_zero, List.setIfInBounds_toArray, List.set_cons_zero, List.set_cons_succ]
              refine wpR_take 20 (v := ?_) (only2_moves g1 g2) (by decide) (by kernel_rfl) (by kernel_rfl) (by kernel_rfl) (fun _ _ _ h => h) (wantedT (by rfl) ?_) ?_ ; rotate_left ; · ( intro w' hR ; simp only [List.getElem_cons_succ, List.getElem_cons_zero] ; go_simp ; try with_reducible rfl )
              simp only [Act.put, List.getElem_cons_succ, List.getElem_cons_zero, List.setIfInBounds_toArray, List.set_cons_zero, List.set_cons_succ]
              refine wpR_take 21 (v := ?_) (only2_moves g1 g2) (by decide) (by kernel_rfl) (by kernel_rfl) (by kernel_rfl) (fun _ _ _ h => h) (wantedT (by rfl) ?_) ?_ ; rotate_left ; · ( intro w' hR ; simp only [List.getElem_cons_succ, List.getElem_cons_zero] ; go_simp ; try with_reducible rfl )
              simp only [Act.put, List.getElem_cons_succ, List.getElem_cons_zero, List.setIfInBounds_toArray, List.set_cons_zero, List.set_cons_succ]
              refine wpR_take 22 (v := ?_) (only2_moves g1 g2) (by decide) (by kernel_rfl) (by kernel_rfl) (by kernel_rfl) (fun _ _ _ h => h) (wantedT (by rfl) ?_) ?_ ; rotate_left ; · ( intro w' hR ; simp only [List.getElem_cons_succ, List.getElem_cons_zero] ; go_simp ; try with_reducible rfl )
              simp only [Act.put, List.getElem_cons_succ, List.getElem_cons_zero, List.setIfInBounds_toArray, List.set_cons_zero, List.set_cons_succ]
              refine wpR_take 23 (v := ?_) (only2_moves g1 g2) (by decide) (by kernel_rfl) (by kernel_rfl) (by kernel_rfl) (fun _ _ _ h => h) (wantedT (by rfl) ?_) ?_ ; rotate_left ; · ( intro w' hR ; simp only [List.getElem_cons_succ, List.getElem_cons_zero] ; go_simp ; try with_reducible rfl )
              simp only [Act.put, List.getElem_cons_succ, List.getElem_cons_zero, List.setIfInBounds_toArray, List.set_cons_zero, List.set_cons_succ]
              refine wpR_take 24 (v := ?_) (only2_moves g1 g2) (by decide) (by kernel_rfl) (by kernel_rfl) (by kernel_rfl) (fun _ _ _ h => h) (wantedT (by rfl) ?_) ?_ ; rotate_left ; · ( intro w' hR ; simp only [List.getElem_cons_succ, List.getElem_cons_zero] ; go_simp ; try with_reducible rfl )
              simp only [Act.put, List.getElem_cons_succ, List.getElem_cons_zero, List.setIfInBounds_toArray, List.set_cons_zero, List.set_cons_succ]
              refine wpR_take 25 (v := ?_) (only2_moves g1 g2) (by decide) (by kernel_rfl) (by kernel_rfl) (by kernel_rfl) (fun _ _ _ h => h) (wantedT (by rfl) ?_) ?_ ; rotate_left ; · ( intro w' hR ; simp only [List.getElem_cons_succ, List.getElem_cons_zero] ; go_simp ; try with_reducible rfl )
              simp only [Act.put, List.getElem_cons_succ, List.getElem_cons_zero, List.setIfInBounds_toArray, List.set_cons_zero, List.set_cons_succ]
              refine wpR_done (by kernel_rfl) ?_
              have hbF := below_drewN' hb0.drew kk
              clear hw0 hm0 hbm hb0
              go_wp2
              go_ret
              exact ⟨by simp, hbF⟩
            · refine wpS_read (v := .bool false) (only2_moves g1 g2) (by decide) (by rfl) ?_ ?_ ; · ( simp only [List.getElem_cons_succ, List.getElem_cons_zero] ; have q := hbm.drew.cell 1 ; simp at q ; go_simp )
              simp only [Act.put, List.getElem_cons_succ, List.getElem_cons_zero, List.setIfInBounds_toArray, List.set_cons_zero, List.set_cons_succ]
              refine wpR_take 14 (v := ?_) (only2_moves g1 g2) (by decide) (by kernel_rfl) (by kernel_rfl) (by kernel_rfl) (fun _ _ _ h => h) (wantedT (by rfl) ?_) ?_ ; rotate_left ; · ( intro w' hR ; simp only [List.getElem_cons_succ, List.getElem_cons_zero] ; go_simp ; try with_reducible rfl )
              simp only [Act.put, List.getElem_cons_succ, List.getElem_cons_zero, List.setIfInBounds_toArray, List.set_cons_zero, List.set_cons_succ]
              refine wpR_one 9 (only2_moves g1 g2) (by kernel_rfl) ?_
              refine wpS_call (by decide) (by rfl) ((done_any g1 bd l false _ hw0.drew).mono ?_) (fun _ => by simp only [List.getElem_cons_succ, List.getElem_cons_zero] ; go_simp)
              rintro e w3 ⟨rfl, kk, rfl⟩
              rw [HD.out]
              refine ⟨_, rfl, only2_l (grown_drewN' (grown_refl' _ _) _), ?_⟩
              simp only [Act.put, List.getElem_cons_succ, List.getElem_cons_zero, List.setIfInBounds_toArray, List.set_cons_zero, List.set_cons_succ]
              refine wpR_take 15 (v := ?_) (only2_moves g1 g2) (by decide) (by kernel_rfl) (by kernel_rfl) (by kernel_rfl) (fun _ _ _ h => h) (wantedT (by rfl) ?_) ?_ ; rotate_left ; · ( intro w' hR ; simp only [List.getElem_cons_succ, List.getElem_cons_zero] ; go_simp ; try with_reducible rfl )
              simp only [Act.put, List.getElem_cons_succ, List.getElem_cons_zero, List.setIfInBounds_toArray, List.set_cons_zero, List.set_cons_succ]
              refine wpR_take 16 (v := ?_) (only2_moves g1 g2) (by decide) (by kernel_rfl) (by kernel_rfl) (by kernel_rfl) (fun _ _ _ h => h) (wantedT (by rfl) ?_) ?_ ; rotate_left ; · ( intro w' hR ; simp only [List.getElem_cons_succ, List.getElem_cons_zero] ; go_simp ; try with_reducible rfl )
              simp only [Act.put, List.getElem_cons_succ, List.getElem_cons_zero, List.setIfInBounds_toArray, List.set_cons_zero, List.set_cons_succ]
              refine wpR_take 17 (v := ?_) (only2_moves g1 g2) (by decide) (by kernel_rfl) (by kernel_rfl) (by kernel_rfl) (fun _ _ _ h => h) (wantedT (by rfl) ?_) ?_ ; rotate_left ; · ( intro w' hR ; simp only [List.getElem_cons_succ, List.getElem_cons_zero] ; go_simp ; try with_reducible rfl )
              simp only [Act.put, List.getElem_cons_succ, List.getElem_cons_zero, List.setIfInBounds_toArray, List.set_cons_zero, List.set_cons_succ]
              refine wpR_take 18 (v := ?_) (only2_moves g1 g2) (by decide) (by kernel_rfl) (by kernel_rfl) (by kernel_rfl) (fun _ _ _ h => h) (wantedT (by rfl) ?_) ?_ ; rotate_left ; · ( intro w' hR ; simp only [List.getElem_cons_succ, List.getElem_cons_zero] ; go_simp ; try with_reducible rfl )
              simp only [Act.put, List.getElem_cons_succ, List.getElem_cons_zero, List.setIfInBounds_toArray, List.set_cons_zero, List.set_cons_succ]
              refine wpR_one 19 (only2_moves g1 g2) (by kernel_rfl) ?_
              refine wpS_read (v := .slice A2 n2 c2) (only2_moves g1 g2) (by decide) (by rfl) ?_ ?_ ; · ( simp only [List.getElem_cons_succ, List.getElem_cons_zero] ; have q := hbm.drew.cell 0 ; simp at q ; go_simp )
              simp only [Act.put, List.getElem_cons_succ, List.getElem_cons_zero, List.setIfInBounds_toArray, List.set_cons_zero, List.set_cons_succ]
              refine wpR_take 20 (v := ?_) (only2_moves g1 g2) (by decide) (by kernel_rfl) (by kernel_rfl) (by kernel_rfl) (fun _ _ _ h => h) (wantedT (by rfl) ?_) ?_ ; rotate_left ; · ( intro w' hR ; simp only [List.getElem_cons_succ, List.getElem_cons_zero] ; go_simp ; try with_reducible rfl )
              simp only [Act.put, List.getElem_cons_succ, List.getElem_cons_zero, List.setIfInBounds_toArray, List.set_cons_zero, List.set_cons_succ]
              refine wpR_take 21 (v := ?_) (only2_moves g1 g2) (by decide) (by kernel_rfl) (by kernel_rfl) (by kernel_rfl) (fun _ _ _ h => h) (wantedT (by rfl) ?_) ?_ ; rotate_left ; · ( intro w' hR ; simp only [List.getElem_cons_succ, List.getElem_cons_zero] ; go_simp ; try with_reducible rfl )
              simp only [Act.put, List.getElem_cons_succ, List.getElem_cons_zero, List.setIfInBounds_toArray, List.set_cons_zero, List.set_cons_succ]
              refine wpR_take 22 (v := ?_) (only2_moves g1 g2) (by decide) (by kernel_rfl) (by kernel_rfl) (by kernel_rfl) (fun _ _ _ h => h) (wantedT (by rfl) ?_) ?_ ; rotate_left ; · ( intro w' hR ; simp only [List.getElem_cons_succ, List.getElem_cons_zero] ; go_simp ; try with_reducible rfl )
              simp only [Act.put, List.getElem_cons_succ, List.getElem_cons_zero, List.setIfInBounds_toArray, List.set_cons_zero, List.set_cons_succ]
              refine wpR_take 23 (v := ?_) (only2_moves g1 g2) (by decide) (by kernel_rfl) (by kernel_rfl) (by kernel_rfl) (fun _ _ _ h => h) (wantedT (by rfl) ?_) ?_ ; rotate_left ; · ( intro w' hR ; simp only [List.getElem_cons_succ, List.getElem_cons_zero] ; go_simp ; try with_reducible rfl )
              simp only [Act.put, List.getElem_cons_succ, List.getElem_cons_zero, List.setIfInBounds_toArray, List.set_cons_zero, List.set_cons_succ]
              refine wpR_take 24 (v := ?_) (only2_moves g1 g2) (by decide) (by kernel_rfl) (by kernel_rfl) (by kernel_rfl) (fun _ _ _ h => h) (wantedT (by rfl) ?_) ?_ ; rotate_left ; · ( intro w' hR ; simp only [List.getElem_cons_succ, List.getElem_cons_zero] ; go_simp ; try with_reducible rfl )
              simp only [Act.put, List.getElem_cons_succ, List.getElem_cons_zero, List.setIfInBounds_toArray, List.set_cons_zero, List.set_cons_succ]
              refine wpR_take 25 (v := ?_) (only2_moves g1 g2) (by decide) (by kernel_rfl) (by kernel_rfl) (by kernel_rfl) (fun _ _ _ h => h) (wantedT (by rfl) ?_) ?_ ; rotate_left ; · ( intro w' hR ; simp only [List.getElem_cons_succ, List.getElem_cons_zero] ; go_simp ; try with_reducible rfl )
              simp only [Act.put, List.getElem_cons_succ, List.getElem_cons_zero, List.setIfInBounds_toArray, List.set_cons_zero, List.set_cons_succ]
              refine wpR_done (by kernel_rfl) ?_
              have hbF := below_drewN' hb0.drew kk
              clear hw0 hm0 hbm hb0
              go_wp2
              go_ret
              exact ⟨by simp, hbF⟩
        · have HLe := Lib.hid hle
          clear hle
          have HD : Hid ((!false && l.isEmpty) = false) := by show _ = _ ; have := HLe.out ; cases l with | nil => exact absurd rfl this | cons x r => rfl
          have hz : ((n2 : Int) == 0) = false := by rw [beq_eq_false_iff_ne] ; have := HLn.out ; have h3 := HLe.out ; intro h4 ; apply h3 ; apply List.eq_nil_of_length_eq_zero ; omega
          go_wp2_with fail
          refine wpR_begin (Only2 g1 g2) (by kernel_rfl) ?_
          refine wpR_take 0 (v := ?_) (only2_moves g1 g2) (by decide) (by kernel_rfl) (by kernel_rfl) (by kernel_rfl) (fun _ _ _ h => h) (wantedT (by rfl) ?_) ?_ ; rotate_left ; · ( intro w' hR ; simp only [List.getElem_cons_succ, List.getElem_cons_zero] ; go_simp ; try with_reducible rfl )
          simp only [Act.put, List.getElem_cons_succ, List.getElem_cons_zero, List.setIfInBounds_toArray, List.set_cons_zero, List.set_cons_succ]
          refine wpR_take 2 (v := ?_) (only2_moves g1 g2) (by decide) (by kernel_rfl) (by kernel_rfl) (by kernel_rfl) (fun _ _ _ h => h) (wantedT (by rfl) ?_) ?_ ; rotate_left ; · ( intro w' hR ; simp only [List.getElem_cons_succ, List.getElem_cons_zero] ; go_simp ; try with_reducible rfl )
          simp only [Act.put, List.getElem_cons_succ, List.getElem_cons_zero, List.setIfInBounds_toArray, List.set_cons_zero, List.set_cons_succ]
          refine wpR_take 3 (v := ?_) (only2_moves g1 g2) (by decide) (by kernel_rfl) (by kernel_rfl) (by kernel_rfl) (fun _ _ _ h => h) (wantedT (by rfl) ?_) ?_ ; rotate_left ; · ( intro w' hR ; simp only [List.getElem_cons_succ, List.getElem_cons_zero] ; go_simp ; try with_reducible rfl )
          simp only [Act.put, List.getElem_cons_succ, List.getElem_cons_zero, List.setIfInBounds_toArray, List.set_cons_zero, List.set_cons_succ]
          refine wpR_take 4 (v := ?_) (only2_moves g1 g2) (by decide) (by kernel_rfl) (by kernel_rfl) (by kernel_rfl) (fun _ _ _ h => h) (wantedT (by rfl) ?_) ?_ ; rotate_left ; · ( intro w' hR ; simp only [List.getElem_cons_succ, List.getElem_cons_zero] ; go_simp ; try with_reducible rfl )
          simp only [Act.put, List.getElem_cons_succ, List.getElem_cons_zero, List.setIfInBounds_toArray, List.set_cons_zero, List.set_cons_succ]
          refine wpR_two 1 5 (only2_moves g1 g2) (by kernel_rfl) ?_ ?_
          · refine wpS_call (by decide) (by rfl) ((failed_any g1 bd l false _ hw0.drew).mono ?_) (fun _ => by simp only [List.getElem_cons_succ, List.getElem_cons_zero] ; go_simp)
            rintro e w2 ⟨rfl, rfl⟩
            refine ⟨_, rfl, (only2_moves g1 g2).refl _, ?_⟩
            simp only [Act.put, List.getElem_cons_succ, List.getElem_cons_zero, List.setIfInBounds_toArray, List.set_cons_zero, List.set_cons_succ]
            refine wpR_one 5 (only2_moves g1 g2) (by kernel_rfl) ?_
            refine wpS_read (v := .bool false) (only2_moves g1 g2) (by decide) (by rfl) ?_ ?_ ; · ( simp only [List.getElem_cons_succ, List.getElem_cons_zero] ; have q := hbm.drew.cell 1 ; simp at q ; go_simp )
            simp only [Act.put, List.getElem_cons_succ, List.getElem_cons_zero, List.setIfInBounds_toArray, List.set_cons_zero, List.set_cons_succ]
            refine wpR_take 6 (v := ?_) (only2_moves g1 g2) (by decide) (by kernel_rfl) (by kernel_rfl) (by kernel_rfl) (fun _ _ _ h => h) (wantedT (by rfl) ?_) ?_ ; rotate_left ; · ( intro w' hR ; simp only [List.getElem_cons_succ, List.getElem_cons_zero] ; go_simp ; try with_reducible rfl )
            simp only [Act.put, List.getElem_cons_succ, List.getElem_cons_zero, List.setIfInBounds_toArray, List.set_cons_zero, List.set_cons_succ]
            refine wpR_take 7 (v := ?_) (only2_moves g1 g2) (by decide) (by kernel_rfl) (by kernel_rfl) (by kernel_rfl) (fun _ _ _ h => h) (wantedT (by rfl) ?_) ?_ ; rotate_left ; · ( intro w' hR ; simp only [List.getElem_cons_succ, List.getElem_cons_zero] ; go_simp ; try with_reducible rfl )
            simp only [Act.put, List.getElem_cons_succ, List.getElem_cons_zero, List.setIfInBounds_toArray, List.set_cons_zero, List.set_cons_succ]
            refine wpR_take 8 (v := ?_) (only2_moves g1 g2) (by decide) (by kernel_rfl) (by kernel_rfl) (by kernel_rfl) (fun _ _ _ h => h) (wantedT (by rfl) ?_) ?_ ; rotate_left ; · ( intro w' hR ; simp only [List.getElem_cons_succ, List.getElem_cons_zero] ; go_simp ; try with_reducible rfl )
            simp only [Act.put, List.getElem_cons_succ, List.getElem_cons_zero, List.setIfInBounds_toArray, List.set_cons_zero, List.set_cons_succ]
            refine wpR_take 10 (v := ?_) (only2_moves g1 g2) (by decide) (by kernel_rfl) (by kernel_rfl) (by kernel_rfl) (fun _ _ _ h => h) (wantedT (by rfl) ?_) ?_ ; rotate_left ; · ( intro w' hR ; simp only [List.getElem_cons_succ, List.getElem_cons_zero] ; go_simp ; try with_reducible rfl )
            simp only [Act.put, List.getElem_cons_succ, List.getElem_cons_zero, List.setIfInBounds_toArray, List.set_cons_zero, List.set_cons_succ]
            refine wpR_take 11 (v := ?_) (only2_moves g1 g2) (by decide) (by kernel_rfl) (by kernel_rfl) (by kernel_rfl) (fun _ _ _ h => h) (wantedT (by rfl) ?_) ?_ ; rotate_left ; · ( intro w' hR ; simp only [List.getElem_cons_succ, List.getElem_cons_zero] ; go_simp ; try with_reducible rfl )
            simp only [Act.put, List.getElem_cons_succ, List.getElem_cons_zero, List.setIfInBounds_toArray, List.set_cons_zero, List.set_cons_succ]
            refine wpR_take 12 (v := ?_) (only2_moves g1 g2) (by decide) (by kernel_rfl) (by kernel_rfl) (by kernel_rfl) (fun _ _ _ h => h) (wantedT (by rfl) ?_) ?_ ; rotate_left ; · ( intro w' hR ; simp only [List.getElem_cons_succ, List.getElem_cons_zero] ; go_simp ; try with_reducible rfl )
            simp only [Act.put, List.getElem_cons_succ, List.getElem_cons_zero, List.setIfInBounds_toArray, List.set_cons_zero, List.set_cons_succ]
            refine wpR_two 9 13 (only2_moves g1 g2) (by kernel_rfl) ?_ ?_
            · refine wpS_call (by decide) (by rfl) ((done_any g1 bd l false _ hw0.drew).mono ?_) (fun _ => by simp only [List.getElem_cons_succ, List.getElem_cons_zero] ; go_simp)
              rintro e w3 ⟨rfl, kk, rfl⟩
              rw [HD.out]
              refine ⟨_, rfl, only2_l (grown_drewN' (grown_refl' _ _) _), ?_⟩
              simp only [Act.put, List.getElem_cons_succ, List.getElem_cons_zero, List.setIfInBounds_toArray, List.set_cons_zero, List.set_cons_succ]
              refine wpR_one 13 (only2_moves g1 g2) (by kernel_rfl) ?_
              refine wpS_read (v := .bool false) (only2_moves g1 g2) (by decide) (by rfl) ?_ ?_ ; · ( simp only [List.getElem_cons_succ, List.getElem_cons_zero] ; have q := hbm.drew.cell 1 ; simp at q ; go_simp )
              simp only [Act.put, List.getElem_cons_succ, List.getElem_cons_zero, List.setIfInBounds_toArray, List.set_cons_zero, List.set_cons_succ]
              refine wpR_take 14 (v := ?_) (only2_moves g1 g2) (by decide) (by kernel_rfl) (by kernel_rfl) (by kernel_rfl) (fun _ _ _ h => h) (wantedT (by rfl) ?_) ?_ ; rotate_left ; · ( intro w' hR ; simp only [List.getElem_cons_succ, List.getElem_cons_zero] ; go_simp ; try with_reducible rfl )
              simp only [Act.put, List.getElem_cons_succ, List.getElem_cons_zero, List.setIfInBounds_toArray, List.set_cons_zero, List.set_cons_succ]
              refine wpR_take 15 (v := ?_) (only2_moves g1 g2) (by decide) (by kernel_rfl) (by kernel_rfl) (by kernel_rfl) (fun _ _ _ h => h) (wantedT (by rfl) ?_) ?_ ; rotate_left ; · ( intro w' hR ; simp only [List.getElem_cons_succ, List.getElem_cons_zero] ; go_simp ; try with_reducible rfl )
              simp only [Act.put, List.getElem_cons_succ, List.getElem_cons_zero, List.setIfInBounds_toArray, List.set_cons_zero, List.set_cons_succ]
              refine wpR_take 16 (v := ?_) (only2_moves g1 g2) (by decide) (by kernel_rfl) (by kernel_rfl) (by kernel_rfl) (fun _ _ _ h => h) (wantedT (by rfl) ?_) ?_ ; rotate_left ; · ( intro w' hR ; simp only [List.getElem_cons_succ, List.getElem_cons_zero] ; go_simp ; try with_reducible rfl )
              simp only [Act.put, List.getElem_cons_succ, List.getElem_cons_zero, List.setIfInBounds_toArray, List.set_cons_zero, List.set_cons_succ]
              refine wpR_take 17 (v := ?_) (only2_moves g1 g2) (by decide) (by kernel_rfl) (by kernel_rfl) (by kernel_rfl) (fun _ _ _ h => h) (wantedT (by rfl) ?_) ?_ ; rotate_left ; · ( intro w' hR ; simp only [List.getElem_cons_succ, List.getElem_cons_zero] ; go_simp ; try with_reducible rfl )
              simp only [Act.put, List.getElem_cons_succ, List.getElem_cons_zero, List.setIfInBounds_toArray, List.set_cons_zero, List.set_cons_succ]
              refine wpR_take 18 (v := ?_) (only2_moves g1 g2) (by decide) (by kernel_rfl) (by kernel_rfl) (by kernel_rfl) (fun _ _ _ h => h) (wantedT (by rfl) ?_) ?_ ; rotate_left ; · ( intro w' hR ; simp only [List.getElem_cons_succ, List.getElem_cons_zero] ; go_simp ; try with_reducible rfl )
              simp only [Act.put, List.getElem_cons_succ, List.getElem_cons_zero, List.setIfInBounds_toArray, List.set_cons_zero, List.set_cons_succ]
              refine wpR_one 19 (only2_moves g1 g2) (by kernel_rfl) ?_
              refine wpS_read (v := .slice A2 n2 c2) (only2_moves g1 g2) (by decide) (by rfl) ?_ ?_ ; · ( simp only [List.getElem_cons_succ, List.getElem_cons_zero] ; have q := hbm.drew.cell 0 ; simp at q ; go_simp )
              simp only [Act.put, List.getElem_cons_succ, List.getElem_cons_zero, List.setIfInBounds_toArray, List.set_cons_zero, List.set_cons_succ]
              refine wpR_take 20 (v := ?_) (only2_moves g1 g2) (by decide) (by kernel_rfl) (by kernel_rfl) (by kernel_rfl) (fun _ _ _ h => h) (wantedT (by rfl) ?_) ?_ ; rotate_left ; · ( intro w' hR ; simp only [List.getElem_cons_succ, List.getElem_cons_zero] ; go_simp ; try with_reducible rfl )
              simp only [Act.put, List.getElem_cons_succ, List.getElem_cons_zero, List.setIfInBounds_toArray, List.set_cons_zero, List.set_cons_succ]
              refine wpR_take 21 (v := ?_) (only2_moves g1 g2) (by decide) (by kernel_rfl) (by kernel_rfl) (by kernel_rfl) (fun _ _ _ h => h) (wantedT (by rfl) ?_) ?_ ; rotate_left ; · ( intro w' hR ; simp only [List.getElem_cons_succ, List.getElem_cons_zero] ; go_simp ; try with_reducible rfl )
              simp only [Act.put, List.getElem_cons_succ, List.getElem_cons_zero, List.setIfInBounds_toArray, List.set_cons_zero, List.set_cons_succ]
              refine wpR_take 22 (v := ?_) (only2_moves g1 g2) (by decide) (by kernel_rfl) (by kernel_rfl) (by kernel_rfl) (fun _ _ _ h => h) (wantedT (by rfl) ?_) ?_ ; rotate_left ; · ( intro w' hR ; simp only [List.getElem_cons_succ, List.getElem_cons_zero] ; go_simp ; try with_reducible rfl )
              simp only [Act.put, List.getElem_cons_succ, List.getElem_cons_zero, List.setIfInBounds_toArray, List.set_cons_zero, List.set_cons_succ]
              refine wpR_take 23 (v := ?_) (only2_moves g1 g2) (by decide) (by kernel_rfl) (by kernel_rfl) (by kernel_rfl) (fun _ _ _ h => h) (wantedT (by rfl) ?_) ?_ ; rotate_left ; · ( intro w' hR ; simp only [List.getElem_cons_succ, List.getElem_cons_zero] ; go_simp ; try with_reducible rfl )
              simp only [Act.put, List.getElem_cons_succ, List.getElem_cons_zero, List.setIfInBounds_toArray, List.set_cons_zero, List.set_cons_succ]
              refine wpR_take 24 (v := ?_) (only2_moves g1 g2) (by decide) (by kernel_rfl) (by kernel_rfl) (by kernel_rfl) (fun _ _ _ h => h) (wantedT (by rfl) ?_) ?_ ; rotate_left ; · ( intro w' hR ; simp only [List.getElem_cons_succ, List.getElem_cons_zero] ; go_simp ; try with_reducible rfl )
              simp only [Act.put, List.getElem_cons_succ, List.getElem_cons_zero, List.setIfInBounds_toArray, List.set_cons_zero, List.set_cons_succ]
              refine wpR_take 25 (v := ?_) (only2_moves g1 g2) (by decide) (by kernel_rfl) (by kernel_rfl) (by kernel_rfl) (fun _ _ _ h => h) (wantedT (by rfl) ?_) ?_ ; rotate_left ; · ( intro w' hR ; simp only [List.getElem_cons_succ, List.getElem_cons_zero] ; go_simp ; try with_reducible rfl )
              simp only [Act.put, List.getElem_cons_succ, List.getElem_cons_zero, List.setIfInBounds_toArray, List.set_cons_zero, List.set_cons_succ]
              refine wpR_done (by kernel_rfl) ?_
              have hbF := below_drewN' hb0.drew kk
              clear hw0 hm0 hbm hb0
              go_wp2
              go_ret
              exact ⟨by simp, hbF⟩
            · refine wpS_read (v := .bool false) (only2_moves g1 g2) (by decide) (by rfl) ?_ ?_ ; · ( simp only [List.getElem_cons_succ, List.getElem_cons_zero] ; have q := hbm.drew.cell 1 ; simp at q ; go_simp )
              simp only [Act.put, List.getElem_cons_succ, List.getElem_cons_zero, List.setIfInBounds_toArray, List.set_cons_zero, List.set_cons_succ]
              refine wpR_take 14 (v := ?_) (only2_moves g1 g2) (by decide) (by kernel_rfl) (by kernel_rfl) (by kernel_rfl) (fun _ _ _ h => h) (wantedT (by rfl) ?_) ?_ ; rotate_left ; · ( intro w' hR ; simp only [List.getElem_cons_succ, List.getElem_cons_zero] ; go_simp ; try with_reducible rfl )
              simp only [Act.put, List.getElem_cons_succ, List.getElem_cons_zero, List.setIfInBounds_toArray, List.set_cons_zero, List.set_cons_succ]
              refine wpR_one 9 (only2_moves g1 g2) (by kernel_rfl) ?_
              refine wpS_call (by decide) (by rfl) ((done_any g1 bd l false _ hw0.drew).mono ?_) (fun _ => by simp only [List.getElem_cons_succ, List.getElem_cons_zero] ; go_simp)
              rintro e w3 ⟨rfl, kk, rfl⟩
              rw [HD.out]
              refine ⟨_, rfl, only2_l (grown_drewN' (grown_refl' _ _) _), ?_⟩
              simp only [Act.put, List.getElem_cons_succ, List.getElem_cons_zero, List.setIfInBounds_toArray, List.set_cons_zero, List.set_cons_succ]
              refine wpR_take 15 (v := ?_) (only2_moves g1 g2) (by decide) (by kernel_rfl) (by kernel_rfl) (by kernel_rfl) (fun _ _ _ h => h) (wantedT (by rfl) ?_) ?_ ; rotate_left ; · ( intro w' hR ; simp only [List.getElem_cons_succ, List.getElem_cons_zero] ; go_simp ; try with_reducible rfl )
              simp only [Act.put, List.getElem_cons_succ, List.getElem_cons_zero, List.setIfInBounds_toArray, List.set_cons_zero, List.set_cons_succ]
              refine wpR_take 16 (v := ?_) (only2_moves g1 g2) (by decide) (by kernel_rfl) (by kernel_rfl) (by kernel_rfl) (fun _ _ _ h => h) (wantedT (by rfl) ?_) ?_ ; rotate_left ; · ( intro w' hR ; simp only [List.getElem_cons_succ, List.getElem_cons_zero] ; go_simp ; try with_reducible rfl )
              simp only [Act.put, List.getElem_cons_succ, List.getElem_cons_zero, List.setIfInBounds_toArray, List.set_cons_zero, List.set_cons_succ]
              refine wpR_take 17 (v := ?_) (only2_moves g1 g2) (by decide) (by kernel_rfl) (by kernel_rfl) (by kernel_rfl) (fun _ _ _ h => h) (wantedT (by rfl) ?_) ?_ ; rotate_left ; · ( intro w' hR ; simp only [List.getElem_cons_succ, List.getElem_cons_zero] ; go_simp ; try with_reducible rfl )
              simp only [Act.put, List.getElem_cons_succ, List.getElem_cons_zero, List.setIfInBounds_toArray, List.set_cons_zero, List.set_cons_succ]
              refine wpR_take 18 (v := ?_) (only2_moves g1 g2) (by decide) (by kernel_rfl) (by kernel_rfl) (by kernel_rfl) (fun _ _ _ h => h) (wantedT (by rfl) ?_) ?_ ; rotate_left ; · ( intro w' hR ; simp only [List.getElem_cons_succ, List.getElem_cons_zero] ; go_simp ; try with_reducible rfl )
              simp only [Act.put, List.getElem_cons_succ, List.getElem_cons_zero, List.setIfInBounds_toArray, List.set_cons_zero, List.set_cons_succ]
              refine wpR_one 19 (only2_moves g1 g2) (by kernel_rfl) ?_
              refine wpS_read (v := .slice A2 n2 c2) (only2_moves g1 g2) (by decide) (by rfl) ?_ ?_ ; · ( simp only [List.getElem_cons_succ, List.getElem_cons_zero] ; have q := hbm.drew.cell 0 ; simp at q ; go_simp )
              simp only [Act.put, List.getElem_cons_succ, List.getElem_cons_zero, List.setIfInBounds_toArray, List.set_cons_zero, List.set_cons_succ]
              refine wpR_take 20 (v := ?_) (only2_moves g1 g2) (by decide) (by kernel_rfl) (by kernel_rfl) (by kernel_rfl) (fun _ _ _ h => h) (wantedT (by rfl) ?_) ?_ ; rotate_left ; · ( intro w' hR ; simp only [List.getElem_cons_succ, List.getElem_cons_zero] ; go_simp ; try with_reducible rfl )
              simp only [Act.put, List.getElem_cons_succ, List.getElem_cons_zero, List.setIfInBounds_toArray, List.set_cons_zero, List.set_cons_succ]
              refine wpR_take 21 (v := ?_) (only2_moves g1 g2) (by decide) (by kernel_rfl) (by kernel_rfl) (by kernel_rfl) (fun _ _ _ h => h) (wantedT (by rfl) ?_) ?_ ; rotate_left ; · ( intro w' hR ; simp only [List.getElem_cons_succ, List.getElem_cons_zero] ; go_simp ; try with_reducible rfl )
              simp only [Act.put, List.getElem_cons_succ, List.getElem_cons_zero, List.setIfInBounds_toArray, List.set_cons_zero, List.set_cons_succ]
              refine wpR_take 22 (v := ?_) (only2_moves g1 g2) (by decide) (by kernel_rfl) (by kernel_rfl) (by kernel_rfl) (fun _ _ _ h => h) (wantedT (by rfl) ?_) ?_ ; rotate_left ; · ( intro w' hR ; simp only [List.getElem_cons_succ, List.getElem_cons_zero] ; go_simp ; try with_reducible rfl )
              simp only [Act.put, List.getElem_cons_succ, List.getElem_cons_zero, List.setIfInBounds_toArray, List.set_cons_zero, List.set_cons_succ]
              refine wpR_take 23 (v := ?_) (only2_moves g1 g2) (by decide) (by kernel_rfl) (by kernel_rfl) (by kernel_rfl) (fun _ _ _ h => h) (wantedT (by rfl) ?_) ?_ ; rotate_left ; · ( intro w' hR ; simp only [List.getElem_cons_succ, List.getElem_cons_zero] ; go_simp ; try with_reducible rfl )
              simp only [Act.put, List.getElem_cons_succ, List.getElem_cons_zero, List.setIfInBounds_toArray, List.set_cons_zero, List.set_cons_succ]
              refine wpR_take 24 (v := ?_) (only2_moves g1 g2) (by decide) (by kernel_rfl) (by kernel_rfl) (by kernel_rfl) (fun _ _ _ h => h) (wantedT (by rfl) ?_) ?_ ; rotate_left ; · ( intro w' hR ; simp only [List.getElem_cons_succ, List.getElem_cons_zero] ; go_simp ; try with_reducible rfl )
              simp only [Act.put, List.getElem_cons_succ, List.getElem_cons_zero, List.setIfInBounds_toArray, List.set_cons_zero, List.set_cons_succ]
              refine wpR_take 25 (v := ?_) (only2_moves g1 g2) (by decide) (by kernel_rfl) (by kernel_rfl) (by kernel_rfl) (fun _ _ _ h => h) (wantedT (by rfl) ?_) ?_ ; rotate_left ; · ( intro w' hR ; simp only [List.getElem_cons_succ, List.getElem_cons_zero] ; go_simp ; try with_reducible rfl )
              simp only [Act.put, List.getElem_cons_succ, List.getElem_cons_zero, List.setIfInBounds_toArray, List.set_cons_zero, List.set_cons_succ]
              refine wpR_done (by kernel_rfl) ?_
              have hbF := below_drewN' hb0.drew kk
              clear hw0 hm0 hbm hb0
              go_wp2
              go_ret
              exact ⟨by simp, hbF⟩
          · refine wpS_read (v := .bool false) (only2_moves g1 g2) (by decide) (by rfl) ?_ ?_ ; · ( simp only [List.getElem_cons_succ, List.getElem_cons_zero] ; have q := hbm.drew.cell 1 ; simp at q ; go_simp )
            simp only [Act.put, List.getElem_cons_succ, List.getElem_cons_zero, List.setIfInBounds_toArray, List.set_cons_zero, List.set_cons_succ]
            refine wpR_one 1 (only2_moves g1 g2) (by kernel_rfl) ?_
            refine wpS_call (by decide) (by rfl) ((failed_any g1 bd l false _ hw0.drew).mono ?_) (fun _ => by simp only [List.getElem_cons_succ, List.getElem_cons_zero] ; go_simp)
            rintro e w2 ⟨rfl, rfl⟩
            refine ⟨_, rfl, (only2_moves g1 g2).refl _, ?_⟩
            simp only [Act.put, List.getElem_cons_succ, List.getElem_cons_zero, List.setIfInBounds_toArray, List.set_cons_zero, List.set_cons_succ]
            refine wpR_take 6 (v := ?_) (only2_moves g1 g2) (by decide) (by kernel_rfl) (by kernel_rfl) (by kernel_rfl) (fun _ _ _ h => h) (wantedT (by rfl) ?_) ?_ ; rotate_left ; · ( intro w' hR ; simp only [List.getElem_cons_succ, List.getElem_cons_zero] ; go_simp ; try with_reducible rfl )
            simp only [Act.put, List.getElem_cons_succ, List.getElem_cons_zero, List.setIfInBounds_toArray, List.set_cons_zero, List.set_cons_succ]
            refine wpR_take 7 (v := ?_) (only2_moves g1 g2) (by decide) (by kernel_rfl) (by kernel_rfl) (by kernel_rfl) (fun _ _ _ h => h) (wantedT (by rfl) ?_) ?_ ; rotate_left ; · ( intro w' hR ; simp only [List.getElem_cons_succ, List.getElem_cons_zero] ; go_simp ; try with_reducible rfl )
            simp only [Act.put, List.getElem_cons_succ, List.getElem_cons_zero, List.setIfInBounds_toArray, List.set_cons_zero, List.set_cons_succ]
            refine wpR_take 8 (v := ?_) (only2_moves g1 g2) (by decide) (by kernel_rfl) (by kernel_rfl) (by kernel_rfl) (fun _ _ _ h => h) (wantedT (by rfl) ?_) ?_ ; rotate_left ; · ( intro w' hR ; simp only [List.getElem_cons_succ, List.getElem_cons_zero] ; go_simp ; try with_reducible rfl )
            simp only [Act.put, List.getElem_cons_succ, List.getElem_cons_zero, List.setIfInBounds_toArray, List.set_cons_zero, List.set_cons_succ]
            refine wpR_take 10 (v := ?_) (only2_moves g1 g2) (by decide) (by kernel_rfl) (by kernel_rfl) (by kernel_rfl) (fun _ _ _ h => h) (wantedT (by rfl) ?_) ?_ ; rotate_left ; · ( intro w' hR ; simp only [List.getElem_cons_succ, List.getElem_cons_zero] ; go_simp ; try with_reducible rfl )
            simp only [Act.put, List.getElem_cons_succ, List.getElem_cons_zero, List.setIfInBounds_toArray, List.set_cons_zero, List.set_cons_succ]
            refine wpR_take 11 (v := ?_) (only2_moves g1 g2) (by decide) (by kernel_rfl) (by kernel_rfl) (by kernel_rfl) (fun _ _ _ h => h) (wantedT (by rfl) ?_) ?_ ; rotate_left ; · ( intro w' hR ; simp only [List.getElem_cons_succ, List.getElem_cons_zero] ; go_simp ; try with_reducible rfl )
            simp only [Act.put, List.getElem_cons_succ, List.getElem_cons_zero, List.setIfInBounds_toArray, List.set_cons_zero, List.set_cons_succ]
            refine wpR_take 12 (v := ?_) (only2_moves g1 g2) (by decide) (by kernel_rfl) (by kernel_rfl) (by kernel_rfl) (fun _ _ _ h => h) (wantedT (by rfl) ?_) ?_ ; rotate_left ; · ( intro w' hR ; simp only [List.getElem_cons_succ, List.getElem_cons_zero] ; go_simp ; try with_reducible rfl )
            simp only [Act.put, List.getElem_cons_succ, List.getElem_cons_zero, List.setIfInBounds_toArray, List.set_cons_zero, List.set_cons_succ]
            refine wpR_two 9 13 (only2_moves g1 g2) (by kernel_rfl) ?_ ?_
            · refine wpS_call (by decide) (by rfl) ((done_any g1 bd l false _ hw0.drew).mono ?_) (fun _ => by simp only [List.getElem_cons_succ, List.getElem_cons_zero] ; go_simp)
              rintro e w3 ⟨rfl, kk, rfl⟩
              rw [HD.out]
              refine ⟨_, rfl, only2_l (grown_drewN' (grown_refl' _ _) _), ?_⟩
              simp only [Act.put, List.getElem_cons_succ, List.getElem_cons_zero, List.setIfInBounds_toArray, List.set_cons_zero, List.set_cons_succ]
              refine wpR_one 13 (only2_moves g1 g2) (by kernel_rfl) ?_
              refine wpS_read (v := .bool false) (only2_moves g1 g2) (by decide) (by rfl) ?_ ?_ ; · ( simp only [List.getElem_cons_succ, List.getElem_cons_zero] ; have q := hbm.drew.cell 1 ; simp at q ; go_simp )
              simp only [Act.put, List.getElem_cons_succ, List.getElem_cons_zero, List.setIfInBounds_toArray, List.set_cons_zero, List.set_cons_succ]
              refine wpR_take 14 (v := ?_) (only2_moves g1 g2) (by decide) (by kernel_rfl) (by kernel_rfl) (by kernel_rfl) (fun _ _ _ h => h) (wantedT (by rfl) ?_) ?_ ; rotate_left ; · ( intro w' hR ; simp only [List.getElem_cons_succ, List.getElem_cons_zero] ; go_simp ; try with_reducible rfl )
              simp only [Act.put, List.getElem_cons_succ, List.getElem_cons_zero, List.setIfInBounds_toArray, List.set_cons_zero, List.set_cons_succ]
              refine wpR_take 15 (v := ?_) (only2_moves g1 g2) (by decide) (by kernel_rfl) (by kernel_rfl) (by kernel_rfl) (fun _ _ _ h => h) (wantedT (by rfl) ?_) ?_ ; rotate_left ; · ( intro w' hR ; simp only [List.getElem_cons_succ, List.getElem_cons_zero] ; go_simp ; try with_reducible rfl )
              simp only [Act.put, List.getElem_cons_succ, List.getElem_cons_zero, List.setIfInBounds_toArray, List.set_cons_zero, List.set_cons_succ]
              refine wpR_take 16 (v := ?_) (only2_moves g1 g2) (by decide) (by kernel_rfl) (by kernel_rfl) (by kernel_rfl) (fun _ _ _ h => h) (wantedT (by rfl) ?_) ?_ ; rotate_left ; · ( intro w' hR ; simp only [List.getElem_cons_succ, List.getElem_cons_zero] ; go_simp ; try with_reducible rfl )
              simp only [Act.put, List.getElem_cons_succ, List.getElem_cons_zero, List.setIfInBounds_toArray, List.set_cons_zero, List.set_cons_succ]
              refine wpR_take 17 (v := ?_) (only2_moves g1 g2) (by decide) (by kernel_rfl) (by kernel_rfl) (by kernel_rfl) (fun _ _ _ h => h) (wantedT (by rfl) ?_) ?_ ; rotate_left ; · ( intro w' hR ; simp only [List.getElem_cons_succ, List.getElem_cons_zero] ; go_simp ; try with_reducible rfl )
              simp only [Act.put, List.getElem_cons_succ, List.getElem_cons_zero, List.setIfInBounds_toArray, List.set_cons_zero, List.set_cons_succ]
              refine wpR_take 18 (v := ?_) (only2_moves g1 g2) (by decide) (by kernel_rfl) (by kernel_rfl) (by kernel_rfl) (fun _ _ _ h => h) (wantedT (by rfl) ?_) ?_ ; rotate_left ; · ( intro w' hR ; simp only [List.getElem_cons_succ, List.getElem_cons_zero] ; go_simp ; try with_reducible rfl )
              simp only [Act.put, List.getElem_cons_succ, List.getElem_cons_zero, List.setIfInBounds_toArray, List.set_cons_zero, List.set_cons_succ]
              refine wpR_one 19 (only2_moves g1 g2) (by kernel_rfl) ?_
              refine wpS_read (v := .slice A2 n2 c2) (only2_moves g1 g2) (by decide) (by rfl) ?_ ?_ ; · ( simp only [List.getElem_cons_succ, List.getElem_cons_zero] ; have q := hbm.drew.cell 0 ; simp at q ; go_simp )
              simp only [Act.put, List.getElem_cons_succ, List.getElem_cons_zero, List.setIfInBounds_toArray, List.set_cons_zero, List.set_cons_succ]
              refine wpR_take 20 (v := ?_) (only2_moves g1 g2) (by decide) (by kernel_rfl) (by kernel_rfl) (by kernel_rfl) (fun _ _ _ h => h) (wantedT (by rfl) ?_) ?_ ; rotate_left ; · ( intro w' hR ; simp only [List.getElem_cons_succ, List.getElem_cons_zero] ; go_simp ; try with_reducible rfl )
              simp only [Act.put, List.getElem_cons_succ, List.getElem_cons_zero, List.setIfInBounds_toArray, List.set_cons_zero, List.set_cons_succ]
              refine wpR_take 21 (v := ?_) (only2_moves g1 g2) (by decide) (by kernel_rfl) (by kernel_rfl) (by kernel_rfl) (fun _ _ _ h => h) (wantedT (by rfl) ?_) ?_ ; rotate_left ; · ( intro w' hR ; simp only [List.getElem_cons_succ, List.getElem_cons_zero] ; go_simp ; try with_reducible rfl )
              simp only [Act.put, List.getElem_cons_succ, List.getElem_cons_zero, List.setIfInBounds_toArray, List.set_cons_zero, List.set_cons_succ]
              refine wpR_take 22 (v := ?_) (only2_moves g1 g2) (by decide) (by kernel_rfl) (by kernel_rfl) (by kernel_rfl) (fun _ _ _ h => h) (wantedT (by rfl) ?_) ?_ ; rotate_left ; · ( intro w' hR ; simp only [List.getElem_cons_succ, List.getElem_cons_zero] ; go_simp ; try with_reducible rfl )
              simp only [Act.put, List.getElem_cons_succ, List.getElem_cons_zero, List.setIfInBounds_toArray, List.set_cons_zero, List.set_cons_succ]
              refine wpR_take 23 (v := ?_) (only2_moves g1 g2) (by decide) (by kernel_rfl) (by kernel_rfl) (by kernel_rfl) (fun _ _ _ h => h) (wantedT (by rfl) ?_) ?_ ; rotate_left ; · ( intro w' hR ; simp only [List.getElem_cons_succ, List.getElem_cons_zero] ; go_simp ; try with_reducible rfl )
              simp only [Act.put, List.getElem_cons_succ, List.getElem_cons_zero, List.setIfInBounds_toArray, List.set_cons_zero, List.set_cons_succ]
              refine wpR_take 24 (v := ?_) (only2_moves g1 g2) (by decide) (by kernel_rfl) (by kernel_rfl) (by kernel_rfl) (fun _ _ _ h => h) (wantedT (by rfl) ?_) ?_ ; rotate_left ; · ( intro w' hR ; simp only [List.getElem_cons_succ, List.getElem_cons_zero] ; go_simp ; try with_reducible rfl )
              simp only [Act.put, List.getElem_cons_succ, List.getElem_cons_zero, List.setIfInBounds_toArray, List.set_cons_zero, List.set_cons_succ]
              refine wpR_take 25 (v := ?_) (only2_moves g1 g2) (by decide) (by kernel_rfl) (by kernel_rfl) (by kernel_rfl) (fun _ _ _ h => h) (wantedT (by rfl) ?_) ?_ ; rotate_left ; · ( intro w' hR ; simp only [List.getElem_cons_succ, List.getElem_cons_zero] ; go_simp ; try with_reducible rfl )
              simp only [Act.put, List.getElem_cons_succ, List.getElem_cons_zero, List.setIfInBounds_toArray, List.set_cons_zero, List.set_cons_succ]
              refine wpR_done (by kernel_rfl) ?_
              have hbF := below_drewN' hb0.drew kk
              clear hw0 hm0 hbm hb0
              go_wp2
              go_ret
              exact ⟨by simp, hbF⟩
            · refine wpS_read (v := .bool false) (only2_moves g1 g2) (by decide) (by rfl) ?_ ?_ ; · ( simp only [List.getElem_cons_succ, List.getElem_cons_zero] ; have q := hbm.drew.cell 1 ; simp at q ; go_simp )
              simp only [Act.put, List.getElem_cons_succ, List.getElem_cons_zero, List.setIfInBounds_toArray, List.set_cons_zero, List.set_cons_succ]
              refine wpR_take 14 (v := ?_) (only2_moves g1 g2) (by decide) (by kernel_rfl) (by kernel_rfl) (by kernel_rfl) (fun _ _ _ h => h) (wantedT (by rfl) ?_) ?_ ; rotate_left ; · ( intro w' hR ; simp only [List.getElem_cons_succ, List.getElem_cons_zero] ; go_simp ; try with_reducible rfl )
              simp only [Act.put, List.getElem_cons_succ, List.getElem_cons_zero, List.setIfInBounds_toArray, List.set_cons_zero, List.set_cons_succ]
              refine wpR_one 9 (only2_moves g1 g2) (by kernel_rfl) ?_
              refine wpS_call (by decide) (by rfl) ((done_any g1 bd l false _ hw0.drew).mono ?_) (fun _ => by simp only [List.getElem_cons_succ, List.getElem_cons_zero] ; go_simp)
              rintro e w3 ⟨rfl, kk, rfl⟩
              rw [HD.out]
              refine ⟨_, rfl, only2_l (grown_drewN' (grown_refl' _ _) _), ?_⟩
              simp only [Act.put, List.getElem_cons_succ, List.getElem_cons_zero, List.setIfInBounds_toArray, List.set_cons_zero, List.set_cons_succ]
              refine wpR_take 15 (v := ?_) (only2_moves g1 g2) (by decide) (by kernel_rfl) (by kernel_rfl) (by kernel_rfl) (fun _ _ _ h => h) (wantedT (by rfl) ?_) ?_ ; rotate_left ; · ( intro w' hR ; simp only [List.getElem_cons_succ, List.getElem_cons_zero] ; go_simp ; try with_reducible rfl )
              simp only [Act.put, List.getElem_cons_succ, List.getElem_cons_zero, List.setIfInBounds_toArray, List.set_cons_zero, List.set_cons_succ]
              refine wpR_take 16 (v := ?_) (only2_moves g1 g2) (by decide) (by kernel_rfl) (by kernel_rfl) (by kernel_rfl) (fun _ _ _ h => h) (wantedT (by rfl) ?_) ?_ ; rotate_left ; · ( intro w' hR ; simp only [List.getElem_cons_succ, List.getElem_cons_zero] ; go_simp ; try with_reducible rfl )
              simp only [Act.put, List.getElem_cons_succ, List.getElem_cons_zero, List.setIfInBounds_toArray, List.set_cons_zero, List.set_cons_succ]
              refine wpR_take 17 (v := ?_) (only2_moves g1 g2) (by decide) (by kernel_rfl) (by kernel_rfl) (by kernel_rfl) (fun _ _ _ h => h) (wantedT (by rfl) ?_) ?_ ; rotate_left ; · ( intro w' hR ; simp only [List.getElem_cons_succ, List.getElem_cons_zero] ; go_simp ; try with_reducible rfl )
              simp only [Act.put, List.getElem_cons_succ, List.getElem_cons_zero, List.setIfInBounds_toArray, List.set_cons_zero, List.set_cons_succ]
              refine wpR_take 18 (v := ?_) (only2_moves g1 g2) (by decide) (by kernel_rfl) (by kernel_rfl) (by kernel_rfl) (fun _ _ _ h => h) (wantedT (by rfl) ?_) ?_ ; rotate_left ; · ( intro w' hR ; simp only [List.getElem_cons_succ, List.getElem_cons_zero] ; go_simp ; try with_reducible rfl )
              simp only [Act.put, List.getElem_cons_succ, List.getElem_cons_zero, List.setIfInBounds_toArray, List.set_cons_zero, List.set_cons_succ]
              refine wpR_one 19 (only2_moves g1 g2) (by kernel_rfl) ?_
              refine wpS_read (v := .slice A2 n2 c2) (only2_moves g1 g2) (by decide) (by rfl) ?_ ?_ ; · ( simp only [List.getElem_cons_succ, List.getElem_cons_zero] ; have q := hbm.drew.cell 0 ; simp at q ; go_simp )
              simp only [Act.put, List.getElem_cons_succ, List.getElem_cons_zero, List.setIfInBounds_toArray, List.set_cons_zero, List.set_cons_succ]
              refine wpR_take 20 (v := ?_) (only2_moves g1 g2) (by decide) (by kernel_rfl) (by kernel_rfl) (by kernel_rfl) (fun _ _ _ h => h) (wantedT (by rfl) ?_) ?_ ; rotate_left ; · ( intro w' hR ; simp only [List.getElem_cons_succ, List.getElem_cons_zero] ; go_simp ; try with_reducible rfl )
              simp only [Act.put, List.getElem_cons_succ, List.getElem_cons_zero, List.setIfInBounds_toArray, List.set_cons_zero, List.set_cons_succ]
              refine wpR_take 21 (v := ?_) (only2_moves g1 g2) (by decide) (by kernel_rfl) (by kernel_rfl) (by kernel_rfl) (fun _ _ _ h => h) (wantedT (by rfl) ?_) ?_ ; rotate_left ; · ( intro w' hR ; simp only [List.getElem_cons_succ, List.getElem_cons_zero] ; go_simp ; try with_reducible rfl )
              simp only [Act.put, List.getElem_cons_succ, List.getElem_cons_zero, List.setIfInBounds_toArray, List.set_cons_zero, List.set_cons_succ]
              refine wpR_take 22 (v := ?_) (only2_moves g1 g2) (by decide) (by kernel_rfl) (by kernel_rfl) (by kernel_rfl) (fun _ _ _ h => h) (wantedT (by rfl) ?_) ?_ ; rotate_left ; · ( intro w' hR ; simp only [List.getElem_cons_succ, List.getElem_cons_zero] ; go_simp ; try with_reducible rfl )
              simp only [Act.put, List.getElem_cons_succ, List.getElem_cons_zero, List.setIfInBounds_toArray, List.set_cons_zero, List.set_cons_succ]
              refine wpR_take 23 (v := ?_) (only2_moves g1 g2) (by decide) (by kernel_rfl) (by kernel_rfl) (by kernel_rfl) (fun _ _ _ h => h) (wantedT (by rfl) ?_) ?_ ; rotate_left ; · ( intro w' hR ; simp only [List.getElem_cons_succ, List.getElem_cons_zero] ; go_simp ; try with_reducible rfl )
              simp only [Act.put, List.getElem_cons_succ, List.getElem_cons_zero, List.setIfInBounds_toArray, List.set_cons_zero, List.set_cons_succ]
              refine wpR_take 24 (v := ?_) (only2_moves g1 g2) (by decide) (by kernel_rfl) (by kernel_rfl) (by kernel_rfl) (fun _ _ _ h => h) (wantedT (by rfl) ?_) ?_ ; rotate_left ; · ( intro w' hR ; simp only [List.getElem_cons_succ, List.getElem_cons_zero] ; go_simp ; try with_reducible rfl )
              simp only [Act.put, List.getElem_cons_succ, List.getElem_cons_zero, List.setIfInBounds_toArray, List.set_cons_zero, List.set_cons_succ]
              refine wpR_take 25 (v := ?_) (only2_moves g1 g2) (by decide) (by kernel_rfl) (by kernel_rfl) (by kernel_rfl) (fun _ _ _ h => h) (wantedT (by rfl) ?_) ?_ ; rotate_left ; · ( intro w' hR ; simp only [List.getElem_cons_succ, List.getElem_cons_zero] ; go_simp ; try with_reducible rfl )
              simp only [Act.put, List.getElem_cons_succ, List.getElem_cons_zero, List.setIfInBounds_toArray, List.set_cons_zero, List.set_cons_succ]
              refine wpR_done (by kernel_rfl) ?_
              have hbF := below_drewN' hb0.drew kk
              clear hw0 hm0 hbm hb0
              go_wp2
              go_ret
              exact ⟨by simp, hbF⟩

theorem wireReader_walk (W : World) (A : Option Addr) (n c : Nat) (f : Fits Try.prog W 22 (Value.slice A n c).cells.toList) (C : Option Addr) (m d : Nat) (f1 : Fits Try.prog W 40 (Value.slice C m d).cells.toList) :
    Calls Try.prog 6 #[.slice A n c, .slice C m d] W fun e W' => e = .returned (.bool true) ∧ Below W.heap.size W W' := by
  obtain ⟨l, h1, h2, h3, h4⟩ := arg_bytes f
  obtain ⟨os, h5, h6, h7⟩ := arg_ops f1
  by_cases h : 1000 < n ∨ 40 < m
  · exact wireReader_out A C n c m d W h (by omega) (by omega)
  · exact wireReader_in A C n c m d l os W h3 h1 h4 h7 h5 (by omega) (by omega)
end Go.Proofs.Ytohddeebmofoeaa
