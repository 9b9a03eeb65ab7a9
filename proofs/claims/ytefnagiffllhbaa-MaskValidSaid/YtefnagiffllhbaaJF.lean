/-
  MaskValid, for every input: the law returns true and leaves its arguments as they were. No condition.
-/
import Derived.Test.YtefnagiffllhbaaJC
import Derived.Test.YtefnagiffllhbaaJD
import Derived.Test.YtefnagiffllhbaaRows
import Derived.Test.YtefnagiffllhbaaFits

/-! VaB -/
namespace Go.Proofs.Ytefnagiffllhbaa
open Go.RowKit

set_option maxRecDepth 100000 in
set_option maxHeartbeats 2000000 in
theorem rValid25_any (L : LayR) (A0 A1 A2 A3 A4 : Option Addr) (n0 c0 n1 c1 n2 c2 n3 c3 n4 c4 : Nat) (rows : List (List Nat)) (l1 l2 l3 l4 : List Nat) (w : World) (hL : LayOk L)
    (h0 : RRows w [.slice A0 n0 c0] rows) (h1 : RWd w [.slice A1 n1 c1] l1) (h2 : RWd w [.slice A2 n2 c2] l2) (h3 : RWd w [.slice A3 n3 c3] l3) (h4 : RWd w [.slice A4 n4 c4] l4) :
    Calls Try.prog 13 #[.agg (layCs L), .agg #[.slice A0 n0 c0, .slice A1 n1 c1, .slice A2 n2 c2, .slice A3 n3 c3, .slice A4 n4 c4]] w fun e w' => e = .returned (.bool (coinsOk L rows l1 l2 l3 l4)) ∧ Below w.heap.size w w' := by
  have HT := Lib.hid (fun w => rTotal_any L.p L.block L.queries L.k L.n L.secret L.rows L.a L.b L.b L.b w hL.a hL.b hL.b hL.b)
  have HE1 := Lib.hid (fun w' (hb : Below w.heap.size w w') => num25_any A1 n1 c1 L.k L.p l1 w' (kept_RWd _ _ _ _ hb h1))
  have HE2 := Lib.hid (fun w' (hb : Below w.heap.size w w') => num25_any A2 n2 c2 (L.k + L.block - 2) L.p l2 w' (kept_RWd _ _ _ _ hb h2))
  have HE3 := Lib.hid (fun w' (hb : Below w.heap.size w w') => num25_any A3 n3 c3 (L.block + 2 * L.queries - 1) L.p l3 w' (kept_RWd _ _ _ _ hb h3))
  have HE4 := Lib.hid (fun w' (hb : Below w.heap.size w w') => num25_any A4 n4 c4 L.n bigQ l4 w' (kept_RWd _ _ _ _ hb h4))
  obtain ⟨hn0, a1, a2, r0⟩ := rows_at h0
  have gm := lw_max a1 a2
  obtain ⟨ans, ha⟩ : ∃ ans, ans = coinsOk L rows l1 l2 l3 l4 := ⟨_, rfl⟩
  rw [← ha]
  unfold coinsOk at ha
  rw [hn0] at ha
  have HN := Lib.hid hn0
  obtain ⟨kl, kc, hba, hsz⟩ := boxes2 w 33 39 (layCs L) #[.slice A0 n0 c0, .slice A1 n1 c1, .slice A2 n2 c2, .slice A3 n3 c3, .slice A4 n4 c4]
  have e1 : IntKind.i64.wrap ((L.k : Int) + (L.block : Int)) = (L.k : Int) + (L.block : Int) := wr_i64 _ (by have := hL.k; have := hL.b2; have := hL.q2; omega) (by have := hL.k; have := hL.b2; have := hL.q2; omega)
  obtain ⟨m2, hm2⟩ : ∃ m2, m2 = L.k + L.block - 2 := ⟨_, rfl⟩
  obtain ⟨m3, hm3⟩ : ∃ m3, m3 = L.block + 2 * L.queries - 1 := ⟨_, rfl⟩
  have e2 : IntKind.i64.wrap ((L.k : Int) + (L.block : Int) - 2) = (m2 : Int) := by rw [wr_i64 _ (by omega) (by have := hL.k; have := hL.b2; have := hL.q2; omega)]; have := hL.b1; omega
  have e3 : IntKind.i64.wrap (2 * (L.queries : Int)) = 2 * (L.queries : Int) := wr_i64 _ (by omega) (by have := hL.q2; omega)
  have e4 : IntKind.i64.wrap ((L.block : Int) + 2 * (L.queries : Int)) = (L.block : Int) + 2 * (L.queries : Int) := wr_i64 _ (by omega) (by have := hL.b2; have := hL.q2; omega)
  have e5 : IntKind.i64.wrap ((L.block : Int) + 2 * (L.queries : Int) - 1) = (m3 : Int) := by rw [wr_i64 _ (by omega) (by have := hL.b2; have := hL.q2; omega)]; have := hL.b1; omega
  rw [← hm2] at HE2 ha
  rw [← hm3] at HE3 ha
  clear hm2 hm3
  generalize elOk l1 L.k L.p = b1 at *
  generalize elOk l2 m2 L.p = b2 at *
  generalize elOk l3 m3 L.p = b3 at *
  generalize elOk l4 L.n bigQ = b4 at *
  generalize L.a + L.b + L.b + L.b = T at *
  have HA := Lib.hid ha
  clear ha h0 h1 h2 h3 h4 hL a1 a2 hn0
  unfold layCs at *
  unfold bigQ at HE4
  go_enter Try.func13, Try.ntmps13
  go_upto_region 1 with fail
  generalize (w.alloc _).alloc _ = w3 at kl kc hba hsz ⊢
  have hb0 := hba
  clear hba hsz
  have cl := kl.cell
  have cc := kc.cell
  have ll := kl.lt
  have lc := kc.lt
  by_cases hT : n0 = T
  rotate_left
  · have HF := Lib.hid (show ans = false by rw [HA.out, decide_eq_false hT]; rfl)
    have t1 : ((n0 : Int) != (T : Int)) = true := by rw [bne_iff_ne]; omega
    have t2 : ((n0 : Int) == (T : Int)) = false := by rw [beq_eq_false_iff_ne]; omega
    clear HA hT
    refine wpGO_begin (Later) (later_moves) [] [] [0, 1, 2, 3, 4, 5] (by kernel_rfl) (by kernel_rfl) ?_
    refine wpGO_start (later_moves) ?_
    intro Wc hacc
    repeat (first | (refine wpGO_skip (later_moves) rfl rfl rfl rfl (fun _ _ _ h => h) ?_ ; simp only [Act.put, List.setIfInBounds_toArray, List.set_cons_zero, List.set_cons_succ]) | (refine wpGO_light (v := ?_) (later_moves) rfl rfl rfl rfl (fun _ _ _ h => h) ?_ ?_ ; rotate_left ; (· (intro w' hR ; (first | have hcells := later_cellsD ((later_moves).trans _ _ _ hacc hR) | skip) ; go_simp ; try with_reducible rfl)) ; simp only [Act.put, List.setIfInBounds_toArray, List.set_cons_zero, List.set_cons_succ]))
    refine wpGO_call (later_moves) rfl rfl rfl rfl (fun _ _ _ h => h) (fun _ => by go_simp <;> rfl) (fun w' hR => HT.out _) ?_
    simp only [Act.put, List.setIfInBounds_toArray, List.set_cons_zero, List.set_cons_succ]
    repeat (first | (refine wpGO_skip (later_moves) rfl rfl rfl rfl (fun _ _ _ h => h) ?_ ; simp only [Act.put, List.setIfInBounds_toArray, List.set_cons_zero, List.set_cons_succ]) | (refine wpGO_light (v := ?_) (later_moves) rfl rfl rfl rfl (fun _ _ _ h => h) ?_ ?_ ; rotate_left ; (· (intro w' hR ; (first | have hcells := later_cellsD ((later_moves).trans _ _ _ hacc hR) | skip) ; go_simp ; try with_reducible rfl)) ; simp only [Act.put, List.setIfInBounds_toArray, List.set_cons_zero, List.set_cons_succ]))
    refine wpGO_done rfl ?_
    intro wd hRd
    replace hacc := (later_moves).trans _ _ _ hacc hRd
    clear hRd
    go_wp2_with fail
    go_ret
    exact ⟨by rw [HF.out]; rfl, below_chain hb0.drew hacc⟩
  have t1 : ((n0 : Int) != (T : Int)) = false := by rw [bne_eq_false_iff_eq]; omega
  have t2 : ((n0 : Int) == (T : Int)) = true := by rw [beq_iff_eq]; omega
  have HB := Lib.hid (show ans = (rows.all (fun r => elOk r L.queries L.p) && (b1 && (b2 && (b3 && b4)))) by rw [HA.out, decide_eq_true hT]; rfl)
  clear HA hT
  refine wpGO_begin (Later) (later_moves) [] [] [0, 1, 2, 3, 4, 5] (by kernel_rfl) (by kernel_rfl) ?_
  refine wpGO_start (later_moves) ?_
  intro Wc hacc
  repeat (first | (refine wpGO_skip (later_moves) rfl rfl rfl rfl (fun _ _ _ h => h) ?_ ; simp only [Act.put, List.setIfInBounds_toArray, List.set_cons_zero, List.set_cons_succ]) | (refine wpGO_light (v := ?_) (later_moves) rfl rfl rfl rfl (fun _ _ _ h => h) ?_ ?_ ; rotate_left ; (· (intro w' hR ; (first | have hcells := later_cellsD ((later_moves).trans _ _ _ hacc hR) | skip) ; go_simp ; try with_reducible rfl)) ; simp only [Act.put, List.setIfInBounds_toArray, List.set_cons_zero, List.set_cons_succ]))
  refine wpGO_call (later_moves) rfl rfl rfl rfl (fun _ _ _ h => h) (fun _ => by go_simp <;> rfl) (fun w' hR => HT.out _) ?_
  simp only [Act.put, List.setIfInBounds_toArray, List.set_cons_zero, List.set_cons_succ]
  repeat (first | (refine wpGO_skip (later_moves) rfl rfl rfl rfl (fun _ _ _ h => h) ?_ ; simp only [Act.put, List.setIfInBounds_toArray, List.set_cons_zero, List.set_cons_succ]) | (refine wpGO_light (v := ?_) (later_moves) rfl rfl rfl rfl (fun _ _ _ h => h) ?_ ?_ ; rotate_left ; (· (intro w' hR ; (first | have hcells := later_cellsD ((later_moves).trans _ _ _ hacc hR) | skip) ; go_simp ; try with_reducible rfl)) ; simp only [Act.put, List.setIfInBounds_toArray, List.set_cons_zero, List.set_cons_succ]))
  refine wpGO_done rfl ?_
  intro wd hRd
  replace hacc := (later_moves).trans _ _ _ hacc hRd
  clear hRd
  replace kl := kl.drew.below hacc kl.lt
  replace kc := kc.drew.below hacc kc.lt
  replace hb0 := below_chain hb0.drew hacc
  clear cl cc ll lc hacc HT
  go_wp2_with fail
  go_loopw [5] (fun y wr => ∃ i : Nat, i ≤ n0 ∧ y = .int .i64 (i : Int) ∧ Hid ((rows.take i).all (fun r => elOk r L.queries L.p) = true) ∧ Blk wr w.heap.size 33 #[.int .u64 (L.p : Int), .int .i64 (L.block : Int), .int .i64 (L.queries : Int), .int .i64 (L.k : Int), .int .i64 (L.n : Int), .int .i64 (L.secret : Int), .int .i64 (L.rows : Int), .int .i64 (L.a : Int), .int .i64 (L.b : Int), .int .i64 (L.b : Int), .int .i64 (L.b : Int)] ∧ Blk wr (w.heap.size + 1) 39 #[.slice A0 n0 c0, .slice A1 n1 c1, .slice A2 n2 c2, .slice A3 n3 c3, .slice A4 n4 c4] ∧ Below w.heap.size w wr) (fun y _ => n0 - (intOf y).toNat)
  case atStart => exact ⟨0, Nat.zero_le _, rfl, rfl, kl, kc, hb0⟩
  case round =>
    clear kl kc hb0
    obtain ⟨i, hi, rfl, HTk, kl, kc, hb0⟩ := hrel
    have cl := kl.cell
    have cc := kc.cell
    have ll := kl.lt
    have lc := kc.lt
    by_cases hlt : i < n0
    · have g1 : (0 : Int) ≤ (i : Int) := by omega
      have g2 : (i : Int) < (n0 : Int) := by omega
      have i1 : i < rows.length := by rw [HN.out]; exact hlt
      obtain ⟨x1, y1, B1, m1, k1, rfl, v1, d1, s1⟩ := rows_get (r0.below kept_RWd hb0) i1
      have HS := Lib.hid (fun w' (hb : Below wr.heap.size wr w') => num25_any B1 m1 k1 L.queries L.p rows[i] w' (kept_RWd _ _ _ _ hb s1))
      clear s1
      cases hx : elOk rows[i] L.queries L.p
      · have HF := Lib.hid (show ans = false by rw [HB.out, allr_not (f := fun r => elOk r L.queries L.p) i1 hx]; rfl)
        rw [hx] at HS
        clear hx HTk i1
        go_upto_region 6 with fail
        refine wpGO_begin (Later) (later_moves) [] [] [0, 1, 2, 3, 4, 5, 6, 7, 8, 9, 10] (by kernel_rfl) (by kernel_rfl) ?_
        refine wpGO_start (later_moves) ?_
        intro Wc hacc
        repeat (first | (refine wpGO_skip (later_moves) rfl rfl rfl rfl (fun _ _ _ h => h) ?_ ; simp only [Act.put, List.setIfInBounds_toArray, List.set_cons_zero, List.set_cons_succ]) | (refine wpGO_light (v := ?_) (later_moves) rfl rfl rfl rfl (fun _ _ _ h => h) ?_ ?_ ; rotate_left ; (· (intro w' hR ; (first | have hcells := later_cellsD ((later_moves).trans _ _ _ hacc hR) | skip) ; go_simp ; try with_reducible rfl)) ; simp only [Act.put, List.setIfInBounds_toArray, List.set_cons_zero, List.set_cons_succ]))
        refine wpGO_call (later_moves) rfl rfl rfl rfl (fun _ _ _ h => h) (fun _ => by go_simp <;> rfl) (fun w' hR => HS.out _ (below_chain (Below.refl _ wr).drew (below_chain hacc hR))) ?_
        simp only [Act.put, List.setIfInBounds_toArray, List.set_cons_zero, List.set_cons_succ]
        repeat (first | (refine wpGO_skip (later_moves) rfl rfl rfl rfl (fun _ _ _ h => h) ?_ ; simp only [Act.put, List.setIfInBounds_toArray, List.set_cons_zero, List.set_cons_succ]) | (refine wpGO_light (v := ?_) (later_moves) rfl rfl rfl rfl (fun _ _ _ h => h) ?_ ?_ ; rotate_left ; (· (intro w' hR ; (first | have hcells := later_cellsD ((later_moves).trans _ _ _ hacc hR) | skip) ; go_simp ; try with_reducible rfl)) ; simp only [Act.put, List.setIfInBounds_toArray, List.set_cons_zero, List.set_cons_succ]))
        refine wpGO_done rfl ?_
        intro wd hRd
        replace hacc := (later_moves).trans _ _ _ hacc hRd
        clear hRd
        go_wp2_with fail
        go_ret
        exact ⟨by rw [HF.out]; rfl, below_chain hb0.drew hacc⟩
      · have HT2 := Lib.hid (allr_take (f := fun r => elOk r L.queries L.p) HTk.out i1 hx)
        rw [hx] at HS
        clear hx HTk i1
        go_upto_region 6 with fail
        refine wpGO_begin (Later) (later_moves) [] [] [0, 1, 2, 3, 4, 5, 6, 7, 8, 9, 10] (by kernel_rfl) (by kernel_rfl) ?_
        refine wpGO_start (later_moves) ?_
        intro Wc hacc
        repeat (first | (refine wpGO_skip (later_moves) rfl rfl rfl rfl (fun _ _ _ h => h) ?_ ; simp only [Act.put, List.setIfInBounds_toArray, List.set_cons_zero, List.set_cons_succ]) | (refine wpGO_light (v := ?_) (later_moves) rfl rfl rfl rfl (fun _ _ _ h => h) ?_ ?_ ; rotate_left ; (· (intro w' hR ; (first | have hcells := later_cellsD ((later_moves).trans _ _ _ hacc hR) | skip) ; go_simp ; try with_reducible rfl)) ; simp only [Act.put, List.setIfInBounds_toArray, List.set_cons_zero, List.set_cons_succ]))
        refine wpGO_call (later_moves) rfl rfl rfl rfl (fun _ _ _ h => h) (fun _ => by go_simp <;> rfl) (fun w' hR => HS.out _ (below_chain (Below.refl _ wr).drew (below_chain hacc hR))) ?_
        simp only [Act.put, List.setIfInBounds_toArray, List.set_cons_zero, List.set_cons_succ]
        repeat (first | (refine wpGO_skip (later_moves) rfl rfl rfl rfl (fun _ _ _ h => h) ?_ ; simp only [Act.put, List.setIfInBounds_toArray, List.set_cons_zero, List.set_cons_succ]) | (refine wpGO_light (v := ?_) (later_moves) rfl rfl rfl rfl (fun _ _ _ h => h) ?_ ?_ ; rotate_left ; (· (intro w' hR ; (first | have hcells := later_cellsD ((later_moves).trans _ _ _ hacc hR) | skip) ; go_simp ; try with_reducible rfl)) ; simp only [Act.put, List.setIfInBounds_toArray, List.set_cons_zero, List.set_cons_succ]))
        refine wpGO_done rfl ?_
        intro wd hRd
        replace hacc := (later_moves).trans _ _ _ hacc hRd
        clear hRd
        replace kl := kl.drew.below hacc kl.lt
        replace kc := kc.drew.below hacc kc.lt
        replace hb0 := below_chain hb0.drew hacc
        clear cl cc ll lc hacc d1 v1
        go_wp2
        go_roundw
        case rel => exact ⟨i + 1, by omega, by go_num, HT2.out, kl, kc, hb0⟩
        case measure => simp [intOf]; omega
    · obtain rfl : i = n0 := by omega
      have HB2 := Lib.hid (show ans = (b1 && (b2 && (b3 && b4))) by rw [HB.out]; have := HTk.out; rw [← HN.out, List.take_length] at this; rw [this]; rfl)
      clear HB HTk
      have HE1a := Lib.hid (HE1.out _ hb0)
      cases b1
      · have HF := Lib.hid (show ans = false by rw [HB2.out]; rfl)
        go_wp2_with fail
        refine HE1a.out.mono ?_
        rintro e w5 ⟨rfl, hb5⟩
        go_wp2
        go_ret
        exact ⟨by rw [HF.out]; rfl, below_chain hb0 hb5⟩
      go_wp2_with fail
      refine HE1a.out.mono ?_
      rintro e w5 ⟨rfl, hb5⟩
      replace kl := kl.below hb5 kl.lt
      replace kc := kc.below hb5 kc.lt
      replace hb0 := below_chain hb0 hb5
      clear cl cc hb5 HE1a HE1
      have cl := kl.cell
      have cc := kc.cell
      have HE2a := Lib.hid (HE2.out _ hb0)
      cases b2
      · have HF := Lib.hid (show ans = false by rw [HB2.out]; rfl)
        go_wp2_with fail
        refine HE2a.out.mono ?_
        rintro e w6 ⟨rfl, hb6⟩
        go_wp2
        go_ret
        exact ⟨by rw [HF.out]; rfl, below_chain hb0 hb6⟩
      go_wp2_with fail
      refine HE2a.out.mono ?_
      rintro e w6 ⟨rfl, hb6⟩
      replace kl := kl.below hb6 kl.lt
      replace kc := kc.below hb6 kc.lt
      replace hb0 := below_chain hb0 hb6
      clear cl cc hb6 HE2a HE2
      have cl := kl.cell
      have cc := kc.cell
      have HE3a := Lib.hid (HE3.out _ hb0)
      cases b3
      · have HF := Lib.hid (show ans = false by rw [HB2.out]; rfl)
        go_wp2_with fail
        refine HE3a.out.mono ?_
        rintro e w7 ⟨rfl, hb7⟩
        go_wp2
        go_ret
        exact ⟨by rw [HF.out]; rfl, below_chain hb0 hb7⟩
      go_wp2_with fail
      refine HE3a.out.mono ?_
      rintro e w7 ⟨rfl, hb7⟩
      replace kl := kl.below hb7 kl.lt
      replace kc := kc.below hb7 kc.lt
      replace hb0 := below_chain hb0 hb7
      clear cl cc hb7 HE3a HE3
      have cl := kl.cell
      have cc := kc.cell
      have HE4a := Lib.hid (HE4.out _ hb0)
      have HF := Lib.hid (show ans = b4 by rw [HB2.out]; rfl)
      go_wp2_with fail
      refine HE4a.out.mono ?_
      rintro e w8 ⟨rfl, hb8⟩
      go_wp2
      go_ret
      exact ⟨by rw [HF.out]; rfl, below_chain hb0 hb8⟩
end Go.Proofs.Ytefnagiffllhbaa

/-! MaskVW -/
namespace Go.Proofs.Ytefnagiffllhbaa
open Go.RowKit

theorem cellsOf_coins : Try.prog.cellsOf 39 = 5 := by kernel_rfl
theorem open_coins {w : World} {cs1 : Array Value} (f1 : Fits Try.prog w 39 (Value.agg cs1).cells.toList) :
    ∃ (A0 A1 A2 A3 A4 : Option Addr) (n0 c0 n1 c1 n2 c2 n3 c3 n4 c4 : Nat) (rows : List (List Nat)) (l1 l2 l3 l4 : List Nat), cs1 = #[.slice A0 n0 c0, .slice A1 n1 c1, .slice A2 n2 c2, .slice A3 n3 c3, .slice A4 n4 c4] ∧ RRows w [.slice A0 n0 c0] rows ∧ RWd w [.slice A1 n1 c1] l1 ∧ RWd w [.slice A2 n2 c2] l2 ∧ RWd w [.slice A3 n3 c3] l3 ∧ RWd w [.slice A4 n4 c4] l4 := by
  have e1 : (Value.agg cs1).cells = cs1 := rfl
  rw [e1] at f1
  clear e1
  have hl := (fits_struct Try.underlying39 f1).1
  rw [cellsOf_coins] at hl
  obtain ⟨cs, hcs⟩ : ∃ cs : List Value, cs1.toList = cs := ⟨_, rfl⟩
  rw [hcs] at hl f1
  obtain rfl : cs1 = cs.toArray := by rw [← hcs]
  clear hcs
  match cs, hl with
  | [x0, x1, x2, x3, x4], _ =>
    obtain ⟨rows, h0⟩ := fits_RSl (R := RWd) 1 Try.underlying37 cellsOf_words (fun cs' _ hf => fits_RWd Try.underlying28 Try.underlying22 cellsOf_u64 hf) (fits_field (i := 0) Try.underlying39 rfl rfl cellsOf_lists f1)
    obtain ⟨l1, h1⟩ := fits_RWd Try.underlying28 Try.underlying22 cellsOf_u64 (fits_field (i := 1) Try.underlying39 rfl rfl cellsOf_words f1)
    obtain ⟨l2, h2⟩ := fits_RWd Try.underlying28 Try.underlying22 cellsOf_u64 (fits_field (i := 2) Try.underlying39 rfl rfl cellsOf_words f1)
    obtain ⟨l3, h3⟩ := fits_RWd Try.underlying28 Try.underlying22 cellsOf_u64 (fits_field (i := 3) Try.underlying39 rfl rfl cellsOf_words f1)
    obtain ⟨l4, h4⟩ := fits_RWd Try.underlying28 Try.underlying22 cellsOf_u64 (fits_field (i := 4) Try.underlying39 rfl rfl cellsOf_words f1)
    simp at h0 h1 h2 h3 h4
    obtain ⟨A0, n0, c0, e0, -⟩ := id h0
    obtain ⟨A1, n1, c1, e1, -⟩ := id h1
    obtain ⟨A2, n2, c2, e2, -⟩ := id h2
    obtain ⟨A3, n3, c3, e3, -⟩ := id h3
    obtain ⟨A4, n4, c4, e4, -⟩ := id h4
    simp only [List.cons.injEq, and_true] at e0 e1 e2 e3 e4
    subst e0 e1 e2 e3 e4
    exact ⟨A0, A1, A2, A3, A4, n0, c0, n1, c1, n2, c2, n3, c3, n4, c4, rows, l1, l2, l3, l4, rfl, h0, h1, h2, h3, h4⟩

set_option maxRecDepth 100000 in
set_option maxHeartbeats 2000000 in
theorem maskValid_walk (W : World) (cs0 : Array Value) (f0 : Fits Try.prog W 30 (Value.agg cs0).cells.toList) (cs1 : Array Value) (f1 : Fits Try.prog W 39 (Value.agg cs1).cells.toList) :
    Calls Try.prog 4 #[.agg cs0, .agg cs1] W fun e W' => e = .returned (.bool true) ∧ Below W.heap.size W W' := by
  obtain ⟨p, pub, vars, A, B, n, c, m, d, rows, ws, bl, bw, qs, rfl, hin⟩ := open_case24 f0
  obtain ⟨A0, A1, A2, A3, A4, n0, c0, n1, c1, n2, c2, n3, c3, n4, c4, rws, l1, l2, l3, l4, rfl, r0, r1, r2, r3, r4⟩ := open_coins f1
  clear f0 f1
  have HR := Lib.hid (fun w' (hb : Below W.heap.size W w') => right25_any p pub vars A B n c m d rows ws bl bw qs w' (kept_RSl kept_RRow _ _ _ _ hb hin.rows) (kept_RWd _ _ _ _ hb hin.ws) hin.p)
  have HV := Lib.hid (fun L w' hL (hb : Below W.heap.size W w') => mValid_any L A0 A1 A2 A3 A4 n0 c0 n1 c1 n2 c2 n3 c3 n4 c4 rws l1 l2 l3 l4 w' hL (kept_RRows _ _ _ _ hb r0) (kept_RWd _ _ _ _ hb r1) (kept_RWd _ _ _ _ hb r2) (kept_RWd _ _ _ _ hb r3) (kept_RWd _ _ _ _ hb r4))
  have HV2 := Lib.hid (fun L w' hL (hb : Below W.heap.size W w') => rValid25_any L A0 A1 A2 A3 A4 n0 c0 n1 c1 n2 c2 n3 c3 n4 c4 rws l1 l2 l3 l4 w' hL (kept_RRows _ _ _ _ hb r0) (kept_RWd _ _ _ _ hb r1) (kept_RWd _ _ _ _ hb r2) (kept_RWd _ _ _ _ hb r3) (kept_RWd _ _ _ _ hb r4))
  clear hin r0 r1 r2 r3 r4
  unfold caseCs at *
  obtain ⟨kx, kc, hb0, hsz⟩ := boxes2 W 30 39 #[.int .u64 (p : Int), .int .i64 pub, .int .i64 vars, .slice A n c, .int .i64 bl, .int .i64 bw, .int .i64 qs, .slice B m d] #[.slice A0 n0 c0, .slice A1 n1 c1, .slice A2 n2 c2, .slice A3 n3 c3, .slice A4 n4 c4]
  clear hsz
  go_enter Try.func4, Try.ntmps4
  go_wp2_with fail
  refine (HR.out _ hb0).mono ?_
  rintro e w1 ⟨⟨hpost, -⟩, hb1⟩
  obtain ⟨y0, y1, y2, y3, y4, y5, y6, y7, y8, y9, y10, b, rfl, hL⟩ := hpost
  replace kc := kc.below hb1 kc.lt
  replace hb0 := below_chain hb0 hb1
  clear hb1 HR kx
  go_upto_region 2 with fail
  have kl := Blk.new w1 33 #[.int .u64 y0, .int .i64 y1, .int .i64 y2, .int .i64 y3, .int .i64 y4, .int .i64 y5, .int .i64 y6, .int .i64 y7, .int .i64 y8, .int .i64 y9, .int .i64 y10]
  have hal := (Below.refl w1.heap.size w1).alloc (Nat.le_refl _) (.cells #[.int .u64 y0, .int .i64 y1, .int .i64 y2, .int .i64 y3, .int .i64 y4, .int .i64 y5, .int .i64 y6, .int .i64 y7, .int .i64 y8, .int .i64 y9, .int .i64 y10] 33)
  replace kc := kc.below hal kc.lt
  replace hb0 := below_chain hb0 hal
  clear hal
  generalize w1.alloc _ = w2 at kl kc hb0 ⊢
  generalize w1.heap.size = gl at kl ⊢
  generalize W.heap.size + 1 = gc at kc ⊢
  have HL := Lib.hid hL
  clear hL
  go_wp2_with fail
  refine (awake_any _).mono ?_
  rintro e w3 ⟨rfl, hb3⟩
  replace kl := kl.below hb3 kl.lt
  replace kc := kc.below hb3 kc.lt
  replace hb0 := below_chain hb0 hb3
  clear hb3
  have cc := kc.cell
  have lc := kc.lt
  cases b
  · go_wp2_with fail
    refine (awake_any _).mono ?_
    rintro e w4 ⟨rfl, hb4⟩
    go_wp2
    go_ret
    exact ⟨rfl, below_chain hb0 hb4⟩
  · obtain ⟨L, hL, -, hcs⟩ := HL.out rfl
    clear HL
    rw [hcs] at kl
    clear hcs
    have HO := Lib.hid (fun w => own_any L w)
    have HV' := Lib.hid (fun w' hb => HV.out L w' hL hb)
    have HV2' := Lib.hid (fun w' hb => HV2.out L w' hL hb)
    clear HV HV2 hL
    generalize coinsOk L rws l1 l2 l3 l4 = ans at HV' HV2'
    unfold layCs at *
    have cl := kl.cell
    have ll := kl.lt
    go_upto_region 3 with fail
    all_goals first
      | (go_wp2_with fail
         refine (awake_any _).mono ?_
         rintro e w4 ⟨rfl, hb4⟩
         go_wp2
         go_ret
         exact ⟨rfl, below_chain hb0 hb4⟩)
      | skip
    clear kl kc
    refine wpO_begin (Later) [1, 3, 6] [0, 2, 4, 5, 1, 3, 6, 7, 8] (by kernel_rfl) (by kernel_rfl) ?_
    refine wpO_startK (later_moves) ?_
    intro Wc HWc hacc
    have hbW : Below w3.heap.size w3 Wc := by rw [HWc.out]; exact (Below.refl _ _).drew
    repeat (first | (refine wpO_skip (later_moves) rfl rfl (fun _ _ _ h => h) ?_ ; simp only [Act.put, List.setIfInBounds_toArray, List.set_cons_zero, List.set_cons_succ]) | (refine wpO_light (v := ?_) (later_moves) rfl rfl (fun _ _ _ h => h) ?_ ?_ ; rotate_left ; (· (intro w' hR ; (first | have hcells := later_cellsD ((later_moves).trans _ _ _ hacc hR) | skip) ; go_simp ; try with_reducible rfl)) ; simp only [Act.put, List.setIfInBounds_toArray, List.set_cons_zero, List.set_cons_succ]))
    refine wpO_call (later_moves) rfl rfl rfl (fun _ => by go_simp <;> rfl) ((HO.out _).mono ?_)
    rintro e w5 ⟨rfl, hb5⟩
    refine ⟨_, rfl, hb5, ?_⟩
    replace hacc := (later_moves).trans _ _ _ hacc (hb5)
    simp only [Act.put, List.setIfInBounds_toArray, List.set_cons_zero, List.set_cons_succ]
    have hb6 := below_chain hb0 (below_chain hbW hb5)
    repeat (first | (refine wpO_skip (later_moves) rfl rfl (fun _ _ _ h => h) ?_ ; simp only [Act.put, List.setIfInBounds_toArray, List.set_cons_zero, List.set_cons_succ]) | (refine wpO_light (v := ?_) (later_moves) rfl rfl (fun _ _ _ h => h) ?_ ?_ ; rotate_left ; (· (intro w' hR ; (first | have hcells := later_cellsD ((later_moves).trans _ _ _ hacc hR) | skip) ; go_simp ; try with_reducible rfl)) ; simp only [Act.put, List.setIfInBounds_toArray, List.set_cons_zero, List.set_cons_succ]))
    refine wpO_call (later_moves) rfl rfl rfl (fun _ => by go_simp <;> rfl) ((HV'.out _ hb6).mono ?_)
    rintro e w7 ⟨rfl, hb7⟩
    refine ⟨_, rfl, hb7, ?_⟩
    replace hacc := (later_moves).trans _ _ _ hacc (hb7)
    simp only [Act.put, List.setIfInBounds_toArray, List.set_cons_zero, List.set_cons_succ]
    have hb8 := below_chain hb6 hb7
    repeat (first | (refine wpO_skip (later_moves) rfl rfl (fun _ _ _ h => h) ?_ ; simp only [Act.put, List.setIfInBounds_toArray, List.set_cons_zero, List.set_cons_succ]) | (refine wpO_light (v := ?_) (later_moves) rfl rfl (fun _ _ _ h => h) ?_ ?_ ; rotate_left ; (· (intro w' hR ; (first | have hcells := later_cellsD ((later_moves).trans _ _ _ hacc hR) | skip) ; go_simp ; try with_reducible rfl)) ; simp only [Act.put, List.setIfInBounds_toArray, List.set_cons_zero, List.set_cons_succ]))
    refine wpO_call (later_moves) rfl rfl rfl (fun _ => by go_simp <;> rfl) ((HV2'.out _ hb8).mono ?_)
    rintro e w9 ⟨rfl, hb9⟩
    refine ⟨_, rfl, hb9, ?_⟩
    replace hacc := (later_moves).trans _ _ _ hacc (hb9)
    simp only [Act.put, List.setIfInBounds_toArray, List.set_cons_zero, List.set_cons_succ]
    have hb10 := below_chain hb8 hb9
    repeat (first | (refine wpO_skip (later_moves) rfl rfl (fun _ _ _ h => h) ?_ ; simp only [Act.put, List.setIfInBounds_toArray, List.set_cons_zero, List.set_cons_succ]) | (refine wpO_light (v := ?_) (later_moves) rfl rfl (fun _ _ _ h => h) ?_ ?_ ; rotate_left ; (· (intro w' hR ; (first | have hcells := later_cellsD ((later_moves).trans _ _ _ hacc hR) | skip) ; go_simp ; try with_reducible rfl)) ; simp only [Act.put, List.setIfInBounds_toArray, List.set_cons_zero, List.set_cons_succ]))
    refine wpO_done ?_
    go_wp2
    go_ret
    exact ⟨by simp, hb10⟩
end Go.Proofs.Ytefnagiffllhbaa

/-! MaskValidProof -/
namespace Go.Proofs.Ytefnagiffllhbaa.maskValid
open Go.ChangeShapes Go.WideShapes Go.ChangeAt Go.RowKit
open Go.ChangeMaps (open_string shut_string)
set_option linter.unusedVariables false

theorem own : ownKnob Try.prog.godebug = none := by kernel_rfl
theorem laidOut : laidOutB Try.prog = true := by kernel_rfl

set_option maxRecDepth 100000 in
theorem lifted (os : Os) (started : os.Started) (H : Type) (enc : TypeId × Value → H) :
    ReturnsInHanded {} Try.checked os 4 .any (Rows.maskValidSpec.pre6 enc Try.prog Try.f4 Rows.maskValidRow.domain false) (Rows.maskValidSpec.post enc Try.prog Try.f4 false true false false) := by
  refine returnsInHanded_of_change (C := Try.checked) own started (by kernel_rfl) Try.func4
    (ChangeSpec.witness6 (enc := enc) (C := Try.checked) false ⟨#[], #[.agg #[.int .u64 0, .int .i64 0, .int .i64 0, .slice none 0 0, .int .i64 0, .int .i64 0, .int .i64 0, .slice none 0 0], .agg #[.slice none 0 0, .slice none 0 0, .slice none 0 0, .slice none 0 0, .slice none 0 0]], []⟩ 12 (by kernel_rfl) (by kernel_rfl) (by kernel_rfl) (by kernel_rfl)) ?_
  intro W base args ds gs before hval0 hW hcnd _
  have hval : ∀ (j : Nat) t v, Try.f4.params[j]? = some t → args[j]? = some v → Value.okWide Try.prog W .any base t v := hval0
  have hW' := hW
  obtain ⟨p, q, hA0, hV, rfl, hfz, hnd⟩ := hW
  have hA : DataW.TrodAll enc Try.prog W 0 (fun _ => true) true Try.f4.params.toList args.toList ds p := hA0
  rw [Try.params4] at hA hval
  obtain ⟨v0, vs0, d0, ds0, p0, q0, hargs, rfl, rfl, h0, r0⟩ := trodAll_cons hA
  obtain ⟨v1, vs1, d1, ds1, p1, q1, rfl, rfl, rfl, h1, r1⟩ := trodAll_cons r0
  obtain ⟨rfl, rfl, rfl⟩ := trodAll_nil r1
  obtain rfl : args = #[v0, v1] := by cases args; simp_all
  obtain ⟨rfl, rfl⟩ := trodVars_none hV
  have lt0 : ∀ x ∈ p0, x.block < W.heap.size := by obtain ⟨m, hm⟩ := h0; exact DataW.trod_lt m _ _ _ hm
  have k0 := h0
  have lt1 : ∀ x ∈ p1, x.block < W.heap.size := by obtain ⟨m, hm⟩ := h1; exact DataW.trod_lt m _ _ _ hm
  have k1 := h1
  obtain ⟨cs0, rfl, z0⟩ := okWide_struct Try.underlying30 (hval 0 30 v0 rfl rfl)
  obtain ⟨cs1, rfl, z1⟩ := okWide_struct Try.underlying39 (hval 1 39 v1 rfl rfl)
  clear hA0 hval0
  refine (maskValid_walk W cs0 (Fits.of_trod k0) cs1 (Fits.of_trod k1)).mono fun e W' ⟨he, bel⟩ => ?_
  subst he
  exact ⟨_, rfl, _, _, _, [], _, [], hW', trodAll_mk1 (shut_bool Try.underlying4 _), (trodAll_cons_mk (Below.trod laidOut (by kernel_rfl) (of_decide_eq_true (by kernel_rfl)) k0 bel lt0) (trodAll_cons_mk (Below.trod laidOut (by kernel_rfl) (of_decide_eq_true (by kernel_rfl)) k1 bel lt1) trodAll_mk0)), rfl, bel.frame _, fun h => by cases h⟩

theorem over : Rows.maskValidRow.holds Try.pinned (OpenSpec.ofChange Rows.maskValidSpec) :=
  OpenClaim.holds_of_wide 4 Try.f4 rfl rfl rfl rfl rfl rfl rfl ⟨rfl, rfl, rfl, rfl, rfl⟩ rfl rfl rfl rfl rfl (by kernel_rfl) Try.func4 (by kernel_rfl)
    (of_decide_eq_true (by kernel_rfl)) (by unfold Func.isWrapper; first | (rw [if_pos (by decide +kernel)]; kernel_rfl) | (rw [if_neg (by decide +kernel)]; exact ⟨rfl, rfl⟩))
    (fun os started H enc _ => lifted os started H enc)

theorem proved : Rows.MaskValidSaid := over
#print axioms proved
end Go.Proofs.Ytefnagiffllhbaa.maskValid
