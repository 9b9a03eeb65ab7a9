/-
  Polynomials as the document writes them: plain definitions and facts.
-/
import Derived.Test.YtefnagiffllhbaaJN13
import Derived.Test.YtefnagiffllhbaaJN5
import Derived.Test.YtefnagiffllhbaaJN17
import Derived.Test.YtefnagiffllhbaaJN9
import Derived.Test.YtefnagiffllhbaaJN15
import Derived.Test.YtefnagiffllhbaaJN16

/- VaA -/
namespace Go.Proofs.Ytefnagiffllhbaa
open Go.RowKit

/-- Coins with the right numbers of reduced elements. -/
def coinsOk (L : LayR) (rows : List (List Nat)) (l1 l2 l3 l4 : List Nat) : Bool :=
  decide (rows.length = L.a + L.b + L.b + L.b) && (rows.all (fun r => elOk r L.queries L.p) && (elOk l1 L.k L.p && (elOk l2 (L.k + L.block - 2) L.p && (elOk l3 (L.block + 2 * L.queries - 1) L.p && elOk l4 L.n bigQ))))
theorem allr_take {l : List (List Nat)} {f : List Nat → Bool} {i : Nat} (h : (l.take i).all f = true) (hi : i < l.length) (hx : f l[i] = true) : (l.take (i + 1)).all f = true := by
  rw [List.take_succ_eq_append_getElem hi, List.all_append, h, List.all_cons, hx]
  rfl
theorem allr_not {l : List (List Nat)} {f : List Nat → Bool} {i : Nat} (hi : i < l.length) (hx : f l[i] = false) : l.all f = false := by
  rw [List.all_eq_false]
  exact ⟨l[i], List.getElem_mem _, by rw [hx]; decide⟩

set_option maxRecDepth 100000 in
set_option maxHeartbeats 2000000 in
theorem mValid_any (L : LayR) (A0 A1 A2 A3 A4 : Option Addr) (n0 c0 n1 c1 n2 c2 n3 c3 n4 c4 : Nat) (rows : List (List Nat)) (l1 l2 l3 l4 : List Nat) (w : World) (hL : LayOk L)
    (h0 : RRows w [.slice A0 n0 c0] rows) (h1 : RWd w [.slice A1 n1 c1] l1) (h2 : RWd w [.slice A2 n2 c2] l2) (h3 : RWd w [.slice A3 n3 c3] l3) (h4 : RWd w [.slice A4 n4 c4] l4) :
    Calls Try.prog 12 #[.agg (layCs L), .agg #[.slice A0 n0 c0, .slice A1 n1 c1, .slice A2 n2 c2, .slice A3 n3 c3, .slice A4 n4 c4]] w fun e w' => e = .returned (.bool (coinsOk L rows l1 l2 l3 l4)) ∧ Below w.heap.size w w' := by
  have HC := Lib.hid (fun w => codeSize_any L w hL)
  have HT := Lib.hid (fun w => pTotal_any L.p L.block L.queries L.k L.n L.secret L.rows L.a L.b L.b L.b w hL.a hL.b hL.b hL.b)
  have HE1 := Lib.hid (fun w' (hb : Below w.heap.size w w') => elem_any A1 n1 c1 L.k L.p l1 w' (kept_RWd _ _ _ _ hb h1))
  have HE2 := Lib.hid (fun w' (hb : Below w.heap.size w w') => elem_any A2 n2 c2 (L.k + L.block - 2) L.p l2 w' (kept_RWd _ _ _ _ hb h2))
  have HE3 := Lib.hid (fun w' (hb : Below w.heap.size w w') => elem_any A3 n3 c3 (L.block + 2 * L.queries - 1) L.p l3 w' (kept_RWd _ _ _ _ hb h3))
  have HE4 := Lib.hid (fun w' (hb : Below w.heap.size w w') => elem_any A4 n4 c4 L.n bigQ l4 w' (kept_RWd _ _ _ _ hb h4))
  obtain ⟨hn0, a1, a2, r0⟩ := rows_at h0
  have gm := lw_max a1 a2
  obtain ⟨ans, ha⟩ : ∃ ans, ans = coinsOk L rows l1 l2 l3 l4 := ⟨_, rfl⟩
  rw [← ha]
  unfold coinsOk at ha
  rw [hn0] at ha
  have HN := Lib.hid hn0
  obtain ⟨kl, kc, hba, hsz⟩ := boxes2 w 41 39 (layCs L) #[.slice A0 n0 c0, .slice A1 n1 c1, .slice A2 n2 c2, .slice A3 n3 c3, .slice A4 n4 c4]
  generalize elOk l1 L.k L.p = b1 at *
  generalize elOk l2 (L.k + L.block - 2) L.p = b2 at *
  generalize elOk l3 (L.block + 2 * L.queries - 1) L.p = b3 at *
  generalize elOk l4 L.n bigQ = b4 at *
  generalize L.k + L.block - 2 = m2 at *
  generalize L.block + 2 * L.queries - 1 = m3 at *
  generalize L.a + L.b + L.b + L.b = T at *
  have HA := Lib.hid ha
  clear ha h0 h1 h2 h3 h4 hL a1 a2 hn0
  unfold layCs at *
  unfold bigQ at HE4
  go_enter Try.func12, Try.ntmps12
  go_wp2_with fail
  generalize (w.alloc _).alloc _ = w1 at kl kc hba hsz ⊢
  refine (HC.out _).mono ?_
  rintro e w2 ⟨rfl, hb2⟩
  have ks := Blk.new w2 76 #[.int .i64 (L.k : Int), .int .i64 (m2 : Int), .int .i64 (m3 : Int)]
  have hbs := (Below.refl w2.heap.size w2).alloc (Nat.le_refl _) (.cells #[.int .i64 (L.k : Int), .int .i64 (m2 : Int), .int .i64 (m3 : Int)] 76)
  replace kl := kl.below hb2 kl.lt
  replace kc := kc.below hb2 kc.lt
  replace kl := kl.below hbs kl.lt
  replace kc := kc.below hbs kc.lt
  have hb0 := below_chain (below_chain hba hb2) hbs
  go_upto_region 2 with fail
  generalize w2.alloc _ = w3 at kl kc ks hb0 ⊢
  generalize w2.heap.size = gs at ks ⊢
  clear hba hb2 hbs hsz HC
  have cl := kl.cell
  have cc := kc.cell
  have cs := ks.cell
  have ll := kl.lt
  have lc := kc.lt
  have ls := ks.lt
  by_cases hT : n0 = T
  rotate_left
  · have HF := Lib.hid (show ans = false by rw [HA.out, decide_eq_false hT]; rfl)
    have t1 : ((n0 : Int) != (T : Int)) = true := by rw [bne_iff_ne]; omega
    have t2 : ((n0 : Int) == (T : Int)) = false := by rw [beq_eq_false_iff_ne]; omega
    clear HA hT
    refine wpGO_begin (Later) (later_moves) [] [] [0, 1, 2, 3, 4, 5, 6, 7, 8, 9, 10, 11, 12, 13, 14, 15, 16, 17, 18, 19, 20, 21, 22, 23, 24, 25] (by kernel_rfl) (by kernel_rfl) ?_
    refine wpGO_start (later_moves) ?_
    intro Wc hacc
    repeat (first | (refine wpGO_skip (later_moves) rfl rfl rfl rfl (fun _ _ _ h => h) ?_ ; simp only [Act.put, List.setIfInBounds_toArray, List.set_cons_zero, List.set_cons_succ]) | (refine wpGO_light (v := ?_) (later_moves) rfl rfl rfl rfl (fun _ _ _ h => h) ?_ ?_ ; rotate_left ; (· (intro w' hR ; (first | have hcells := later_cellsD ((later_moves).trans _ _ _ hacc hR) | skip) ; go_simp ; try with_reducible rfl)) ; simp only [Act.put, List.setIfInBounds_toArray, List.set_cons_zero, List.set_cons_succ]))
    refine wpGO_call (later_moves) rfl rfl rfl rfl (fun _ _ _ h => h) (fun _ => by go_simp <;> rfl) (fun w' hR => HT.out _) ?_
    simp only [Act.put, List.setIfInBounds_toArray, List.set_cons_zero, List.set_cons_succ]
    repeat (first | (refine wpGO_skip (later_moves) rfl rfl rfl rfl (fun _ _ _ h => h) ?_ ; simp only [Act.put, List.setIfInBounds_toArray, List.set_cons_zero, List.set_cons_succ]) | (refine wpGO_light (v := ?_) (later_moves) rfl rfl rfl rfl (fun _ _ _ h => h) ?_ ?_ ; rotate_left ; (· (intro w' hR ; (first | have hcells := later_cellsD ((later_moves).trans _ _ _ hacc hR) | skip) ; go_simp ; try with_reducible rfl)) ; simp only [Act.put, List.setIfInBounds_toArray, List.set_cons_zero, List.set_cons_succ]))
    refine wpGO_done rfl ?_
    intro wd hRd
    replace hacc := (later_moves).trans _ _ _ hacc hRd
    clear hRd
    go_wp2_with fail
    go_ret
    exact ⟨by rw [HF.out]; rfl, below_chain hb0.drew hacc⟩
  have t1 : ((n0 : Int) != (T : Int)) = false := by rw [bne_eq_false_iff_eq]; omega
  have t2 : ((n0 : Int) == (T : Int)) = true := by rw [beq_iff_eq]; omega
  have HB := Lib.hid (show ans = (rows.all (fun r => elOk r L.queries L.p) && (b1 && (b2 && (b3 && b4)))) by rw [HA.out, decide_eq_true hT]; rfl)
  clear HA hT
  cases b1
  · have HF := Lib.hid (show ans = false by rw [HB.out]; simp)
    refine wpGO_begin (Later) (later_moves) [] [] [0, 1, 2, 3, 4, 5, 6, 7, 8, 9, 10, 11, 12, 13, 14, 15, 16, 17, 18, 19, 20, 21, 22, 23, 24, 25] (by kernel_rfl) (by kernel_rfl) ?_
    refine wpGO_start (later_moves) ?_
    intro Wc hacc
    repeat (first | (refine wpGO_skip (later_moves) rfl rfl rfl rfl (fun _ _ _ h => h) ?_ ; simp only [Act.put, List.setIfInBounds_toArray, List.set_cons_zero, List.set_cons_succ]) | (refine wpGO_light (v := ?_) (later_moves) rfl rfl rfl rfl (fun _ _ _ h => h) ?_ ?_ ; rotate_left ; (· (intro w' hR ; (first | have hcells := later_cellsD ((later_moves).trans _ _ _ hacc hR) | skip) ; go_simp ; try with_reducible rfl)) ; simp only [Act.put, List.setIfInBounds_toArray, List.set_cons_zero, List.set_cons_succ]))
    refine wpGO_call (later_moves) rfl rfl rfl rfl (fun _ _ _ h => h) (fun _ => by go_simp <;> rfl) (fun w' hR => HT.out _) ?_
    simp only [Act.put, List.setIfInBounds_toArray, List.set_cons_zero, List.set_cons_succ]
    repeat (first | (refine wpGO_skip (later_moves) rfl rfl rfl rfl (fun _ _ _ h => h) ?_ ; simp only [Act.put, List.setIfInBounds_toArray, List.set_cons_zero, List.set_cons_succ]) | (refine wpGO_light (v := ?_) (later_moves) rfl rfl rfl rfl (fun _ _ _ h => h) ?_ ?_ ; rotate_left ; (· (intro w' hR ; (first | have hcells := later_cellsD ((later_moves).trans _ _ _ hacc hR) | skip) ; go_simp ; try with_reducible rfl)) ; simp only [Act.put, List.setIfInBounds_toArray, List.set_cons_zero, List.set_cons_succ]))
    refine wpGO_call (later_moves) rfl rfl rfl rfl (fun _ _ _ h => h) (fun _ => by go_simp <;> rfl) (fun w' hR => HE1.out _ (below_chain hb0.drew (below_chain hacc hR))) ?_
    simp only [Act.put, List.setIfInBounds_toArray, List.set_cons_zero, List.set_cons_succ]
    repeat (first | (refine wpGO_skip (later_moves) rfl rfl rfl rfl (fun _ _ _ h => h) ?_ ; simp only [Act.put, List.setIfInBounds_toArray, List.set_cons_zero, List.set_cons_succ]) | (refine wpGO_light (v := ?_) (later_moves) rfl rfl rfl rfl (fun _ _ _ h => h) ?_ ?_ ; rotate_left ; (· (intro w' hR ; (first | have hcells := later_cellsD ((later_moves).trans _ _ _ hacc hR) | skip) ; go_simp ; try with_reducible rfl)) ; simp only [Act.put, List.setIfInBounds_toArray, List.set_cons_zero, List.set_cons_succ]))
    refine wpGO_done rfl ?_
    intro wd hRd
    replace hacc := (later_moves).trans _ _ _ hacc hRd
    clear hRd
    go_wp2_with fail
    go_ret
    exact ⟨by rw [HF.out]; rfl, below_chain hb0.drew hacc⟩
  cases b2
  · have HF := Lib.hid (show ans = false by rw [HB.out]; simp)
    refine wpGO_begin (Later) (later_moves) [] [] [0, 1, 2, 3, 4, 5, 6, 7, 8, 9, 10, 11, 12, 13, 14, 15, 16, 17, 18, 19, 20, 21, 22, 23, 24, 25] (by kernel_rfl) (by kernel_rfl) ?_
    refine wpGO_start (later_moves) ?_
    intro Wc hacc
    repeat (first | (refine wpGO_skip (later_moves) rfl rfl rfl rfl (fun _ _ _ h => h) ?_ ; simp only [Act.put, List.setIfInBounds_toArray, List.set_cons_zero, List.set_cons_succ]) | (refine wpGO_light (v := ?_) (later_moves) rfl rfl rfl rfl (fun _ _ _ h => h) ?_ ?_ ; rotate_left ; (· (intro w' hR ; (first | have hcells := later_cellsD ((later_moves).trans _ _ _ hacc hR) | skip) ; go_simp ; try with_reducible rfl)) ; simp only [Act.put, List.setIfInBounds_toArray, List.set_cons_zero, List.set_cons_succ]))
    refine wpGO_call (later_moves) rfl rfl rfl rfl (fun _ _ _ h => h) (fun _ => by go_simp <;> rfl) (fun w' hR => HT.out _) ?_
    simp only [Act.put, List.setIfInBounds_toArray, List.set_cons_zero, List.set_cons_succ]
    repeat (first | (refine wpGO_skip (later_moves) rfl rfl rfl rfl (fun _ _ _ h => h) ?_ ; simp only [Act.put, List.setIfInBounds_toArray, List.set_cons_zero, List.set_cons_succ]) | (refine wpGO_light (v := ?_) (later_moves) rfl rfl rfl rfl (fun _ _ _ h => h) ?_ ?_ ; rotate_left ; (· (intro w' hR ; (first | have hcells := later_cellsD ((later_moves).trans _ _ _ hacc hR) | skip) ; go_simp ; try with_reducible rfl)) ; simp only [Act.put, List.setIfInBounds_toArray, List.set_cons_zero, List.set_cons_succ]))
    refine wpGO_call (later_moves) rfl rfl rfl rfl (fun _ _ _ h => h) (fun _ => by go_simp <;> rfl) (fun w' hR => HE1.out _ (below_chain hb0.drew (below_chain hacc hR))) ?_
    simp only [Act.put, List.setIfInBounds_toArray, List.set_cons_zero, List.set_cons_succ]
    repeat (first | (refine wpGO_skip (later_moves) rfl rfl rfl rfl (fun _ _ _ h => h) ?_ ; simp only [Act.put, List.setIfInBounds_toArray, List.set_cons_zero, List.set_cons_succ]) | (refine wpGO_light (v := ?_) (later_moves) rfl rfl rfl rfl (fun _ _ _ h => h) ?_ ?_ ; rotate_left ; (· (intro w' hR ; (first | have hcells := later_cellsD ((later_moves).trans _ _ _ hacc hR) | skip) ; go_simp ; try with_reducible rfl)) ; simp only [Act.put, List.setIfInBounds_toArray, List.set_cons_zero, List.set_cons_succ]))
    refine wpGO_call (later_moves) rfl rfl rfl rfl (fun _ _ _ h => h) (fun _ => by go_simp <;> rfl) (fun w' hR => HE2.out _ (below_chain hb0.drew (below_chain hacc hR))) ?_
    simp only [Act.put, List.setIfInBounds_toArray, List.set_cons_zero, List.set_cons_succ]
    repeat (first | (refine wpGO_skip (later_moves) rfl rfl rfl rfl (fun _ _ _ h => h) ?_ ; simp only [Act.put, List.setIfInBounds_toArray, List.set_cons_zero, List.set_cons_succ]) | (refine wpGO_light (v := ?_) (later_moves) rfl rfl rfl rfl (fun _ _ _ h => h) ?_ ?_ ; rotate_left ; (· (intro w' hR ; (first | have hcells := later_cellsD ((later_moves).trans _ _ _ hacc hR) | skip) ; go_simp ; try with_reducible rfl)) ; simp only [Act.put, List.setIfInBounds_toArray, List.set_cons_zero, List.set_cons_succ]))
    refine wpGO_done rfl ?_
    intro wd hRd
    replace hacc := (later_moves).trans _ _ _ hacc hRd
    clear hRd
    go_wp2_with fail
    go_ret
    exact ⟨by rw [HF.out]; rfl, below_chain hb0.drew hacc⟩
  refine wpGO_begin (Later) (later_moves) [] [] [0, 1, 2, 3, 4, 5, 6, 7, 8, 9, 10, 11, 12, 13, 14, 15, 16, 17, 18, 19, 20, 21, 22, 23, 24, 25] (by kernel_rfl) (by kernel_rfl) ?_
  refine wpGO_start (later_moves) ?_
  intro Wc hacc
  repeat (first | (refine wpGO_skip (later_moves) rfl rfl rfl rfl (fun _ _ _ h => h) ?_ ; simp only [Act.put, List.setIfInBounds_toArray, List.set_cons_zero, List.set_cons_succ]) | (refine wpGO_light (v := ?_) (later_moves) rfl rfl rfl rfl (fun _ _ _ h => h) ?_ ?_ ; rotate_left ; (· (intro w' hR ; (first | have hcells := later_cellsD ((later_moves).trans _ _ _ hacc hR) | skip) ; go_simp ; try with_reducible rfl)) ; simp only [Act.put, List.setIfInBounds_toArray, List.set_cons_zero, List.set_cons_succ]))
  refine wpGO_call (later_moves) rfl rfl rfl rfl (fun _ _ _ h => h) (fun _ => by go_simp <;> rfl) (fun w' hR => HT.out _) ?_
  simp only [Act.put, List.setIfInBounds_toArray, List.set_cons_zero, List.set_cons_succ]
  repeat (first | (refine wpGO_skip (later_moves) rfl rfl rfl rfl (fun _ _ _ h => h) ?_ ; simp only [Act.put, List.setIfInBounds_toArray, List.set_cons_zero, List.set_cons_succ]) | (refine wpGO_light (v := ?_) (later_moves) rfl rfl rfl rfl (fun _ _ _ h => h) ?_ ?_ ; rotate_left ; (· (intro w' hR ; (first | have hcells := later_cellsD ((later_moves).trans _ _ _ hacc hR) | skip) ; go_simp ; try with_reducible rfl)) ; simp only [Act.put, List.setIfInBounds_toArray, List.set_cons_zero, List.set_cons_succ]))
  refine wpGO_call (later_moves) rfl rfl rfl rfl (fun _ _ _ h => h) (fun _ => by go_simp <;> rfl) (fun w' hR => HE1.out _ (below_chain hb0.drew (below_chain hacc hR))) ?_
  simp only [Act.put, List.setIfInBounds_toArray, List.set_cons_zero, List.set_cons_succ]
  repeat (first | (refine wpGO_skip (later_moves) rfl rfl rfl rfl (fun _ _ _ h => h) ?_ ; simp only [Act.put, List.setIfInBounds_toArray, List.set_cons_zero, List.set_cons_succ]) | (refine wpGO_light (v := ?_) (later_moves) rfl rfl rfl rfl (fun _ _ _ h => h) ?_ ?_ ; rotate_left ; (· (intro w' hR ; (first | have hcells := later_cellsD ((later_moves).trans _ _ _ hacc hR) | skip) ; go_simp ; try with_reducible rfl)) ; simp only [Act.put, List.setIfInBounds_toArray, List.set_cons_zero, List.set_cons_succ]))
  refine wpGO_call (later_moves) rfl rfl rfl rfl (fun _ _ _ h => h) (fun _ => by go_simp <;> rfl) (fun w' hR => HE2.out _ (below_chain hb0.drew (below_chain hacc hR))) ?_
  simp only [Act.put, List.setIfInBounds_toArray, List.set_cons_zero, List.set_cons_succ]
  repeat (first | (refine wpGO_skip (later_moves) rfl rfl rfl rfl (fun _ _ _ h => h) ?_ ; simp only [Act.put, List.setIfInBounds_toArray, List.set_cons_zero, List.set_cons_succ]) | (refine wpGO_light (v := ?_) (later_moves) rfl rfl rfl rfl (fun _ _ _ h => h) ?_ ?_ ; rotate_left ; (· (intro w' hR ; (first | have hcells := later_cellsD ((later_moves).trans _ _ _ hacc hR) | skip) ; go_simp ; try with_reducible rfl)) ; simp only [Act.put, List.setIfInBounds_toArray, List.set_cons_zero, List.set_cons_succ]))
  refine wpGO_done rfl ?_
  intro wd hRd
  replace hacc := (later_moves).trans _ _ _ hacc hRd
  clear hRd
  replace kl := kl.drew.below hacc kl.lt
  replace kc := kc.drew.below hacc kc.lt
  replace ks := ks.drew.below hacc ks.lt
  replace hb0 := below_chain hb0.drew hacc
  clear cl cc cs ll lc ls hacc HE1 HE2 HT
  have cl := kl.cell
  have cc := kc.cell
  have cs := ks.cell
  have HE3a := Lib.hid (HE3.out _ hb0)
  cases b3
  · have HF := Lib.hid (show ans = false by rw [HB.out]; simp)
    go_wp2_with fail
    refine HE3a.out.mono ?_
    rintro e w5 ⟨rfl, hb5⟩
    go_wp2
    go_ret
    exact ⟨by rw [HF.out]; rfl, below_chain hb0 hb5⟩
  go_wp2_with fail
  refine HE3a.out.mono ?_
  rintro e w5 ⟨rfl, hb5⟩
  replace kl := kl.below hb5 kl.lt
  replace kc := kc.below hb5 kc.lt
  replace hb0 := below_chain hb0 hb5
  clear cl cc cs ks hb5 HE3a HE3
  have cl := kl.cell
  have cc := kc.cell
  have HE4a := Lib.hid (HE4.out _ hb0)
  cases b4
  · have HF := Lib.hid (show ans = false by rw [HB.out]; simp)
    go_wp2_with fail
    refine HE4a.out.mono ?_
    rintro e w6 ⟨rfl, hb6⟩
    go_wp2
    go_ret
    exact ⟨by rw [HF.out]; rfl, below_chain hb0 hb6⟩
  go_wp2_with fail
  refine HE4a.out.mono ?_
  rintro e w6 ⟨rfl, hb6⟩
  replace kl := kl.below hb6 kl.lt
  replace kc := kc.below hb6 kc.lt
  replace hb0 := below_chain hb0 hb6
  clear cl cc hb6 HE4a HE4
  have HB2 := Lib.hid (show ans = rows.all (fun r => elOk r L.queries L.p) by rw [HB.out]; simp)
  clear HB
  have cc := kc.cell
  go_wp2_with fail
  clear cc
  go_loopw [55] (fun y wr => ∃ i : Nat, i ≤ n0 ∧ y = .int .i64 (i : Int) ∧ Hid ((rows.take i).all (fun r => elOk r L.queries L.p) = true) ∧ Blk wr w.heap.size 41 #[.int .u64 (L.p : Int), .int .i64 (L.block : Int), .int .i64 (L.queries : Int), .int .i64 (L.k : Int), .int .i64 (L.n : Int), .int .i64 (L.secret : Int), .int .i64 (L.rows : Int), .int .i64 (L.a : Int), .int .i64 (L.b : Int), .int .i64 (L.b : Int), .int .i64 (L.b : Int)] ∧ Below w.heap.size w wr) (fun y _ => n0 - (intOf y).toNat)
  case atStart => exact ⟨0, Nat.zero_le _, rfl, rfl, kl, hb0⟩
  case round =>
    clear kl kc hb0
    obtain ⟨i, hi, rfl, HTk, kl, hb0⟩ := hrel
    by_cases hlt : i < n0
    · have g1 : (0 : Int) ≤ (i : Int) := by omega
      have g2 : (i : Int) < (n0 : Int) := by omega
      have i1 : i < rows.length := by rw [HN.out]; exact hlt
      obtain ⟨x1, y1, B1, m1, k1, rfl, v1, d1, s1⟩ := rows_get (r0.below kept_RWd hb0) i1
      have HS := Lib.hid (elem_any B1 m1 k1 L.queries L.p rows[i] wr s1)
      have cl := kl.cell
      clear s1
      cases hx : elOk rows[i] L.queries L.p
      · have HF := Lib.hid (HB2.out.trans (allr_not i1 hx))
        rw [hx] at HS
        clear hx HTk i1
        go_wp2_with fail
        refine HS.out.mono ?_
        rintro e w7 ⟨rfl, hb7⟩
        go_wp2
        go_ret
        exact ⟨by rw [HF.out]; rfl, below_chain hb0 hb7⟩
      · have HT2 := Lib.hid (allr_take HTk.out i1 hx)
        rw [hx] at HS
        clear hx HTk i1
        go_wp2_with fail
        refine HS.out.mono ?_
        rintro e w7 ⟨rfl, hb7⟩
        replace kl := kl.below hb7 kl.lt
        replace hb0 := below_chain hb0 hb7
        clear cl hb7 d1 v1
        go_wp2
        go_roundw
        case rel => exact ⟨i + 1, by omega, by go_num, HT2.out, kl, hb0⟩
        case measure => simp [intOf]; omega
    · obtain rfl : i = n0 := by omega
      have HF := Lib.hid (show ans = true by rw [HB2.out]; have := HTk.out; rwa [← HN.out, List.take_length] at this)
      go_wp2
      go_ret
      exact ⟨by rw [HF.out]; rfl, hb0⟩
end Go.Proofs.Ytefnagiffllhbaa

/- AwA -/
namespace Go.Proofs.Ytefnagiffllhbaa
open Go.RowKit

theorem vecP_ok (p s : Nat) (r : List Nat) (m : Nat) (hp : 0 < p) : elOk (vecP p s r m) m p = true := by
  unfold elOk vecP
  rw [Bool.and_eq_true]
  refine ⟨by simp, List.all_eq_true.2 fun x hx => ?_⟩
  obtain ⟨k, -, rfl⟩ := List.mem_map.1 hx
  exact decide_eq_true (Nat.mod_lt _ hp)
theorem coins_seed (L : LayR) (s : Nat) (hp : 0 < L.p) : coinsOk L (rowsP L s (L.a + L.b + L.b + L.b)) (vecP L.p s [1] L.k) (vecP L.p s [2] (L.k + L.block - 2)) (vecP L.p s [3] (L.block + 2 * L.queries - 1)) (vecP bigQ s [4] L.n) = true := by
  unfold coinsOk
  simp only [vecP_ok _ _ _ _ hp, vecP_ok bigQ _ _ _ (show 0 < bigQ by decide)]
  have : (rowsP L s (L.a + L.b + L.b + L.b)).all (fun l => elOk l L.queries L.p) = true := List.all_eq_true.2 fun l hl => by
    obtain ⟨k, -, rfl⟩ := List.mem_map.1 hl
    exact vecP_ok _ _ _ _ hp
  simp [rowsP] at this ⊢
  exact this
theorem rlin_one {w : World} {b : Nat} {t : TypeId} (k : Blk w b t #[.int .i64 1, .int .u64 1]) : RLin w [.slice (some ⟨b, 0, none⟩) 1 1] [(1, 1)] := by
  refine ⟨_, 1, 1, rfl, rfl, Nat.le_refl _, by simp [maxLen], fun i hi => ⟨_, [.int .i64 1, .int .u64 1], rfl, rfl, fun j hj => ?_, ?_⟩⟩
  · obtain rfl : i = 0 := by simpa using hi
    rw [add_none, show 0 + (0 * 2 + j) = j by omega, k.cell]
    simp
  · obtain rfl : i = 0 := by simpa using hi
    exact ⟨rfl, by simp, by simp⟩
def row1 : RowR := ⟨[(1, 1)], [(1, 1)], [(1, 1)]⟩
theorem rrow_one {w : World} {b1 b2 b3 b4 : Nat} {t u : TypeId} (k1 : Blk w b1 t #[.int .i64 1, .int .u64 1]) (k2 : Blk w b2 t #[.int .i64 1, .int .u64 1]) (k3 : Blk w b3 t #[.int .i64 1, .int .u64 1]) (k4 : Blk w b4 u #[.slice (some ⟨b1, 0, none⟩) 1 1, .slice (some ⟨b2, 0, none⟩) 1 1, .slice (some ⟨b3, 0, none⟩) 1 1]) :
    RSl 3 RRow w [.slice (some ⟨b4, 0, none⟩) 1 1] [row1] := by
  refine ⟨_, 1, 1, rfl, rfl, Nat.le_refl _, by simp [maxLen], fun i hi => ⟨_, [.slice (some ⟨b1, 0, none⟩) 1 1, .slice (some ⟨b2, 0, none⟩) 1 1, .slice (some ⟨b3, 0, none⟩) 1 1], rfl, rfl, fun j hj => ?_, ?_⟩⟩
  · obtain rfl : i = 0 := by simpa using hi
    rw [add_none, show 0 + (0 * 3 + j) = j by omega, k4.cell]
    simp
  · obtain rfl : i = 0 := by simpa using hi
    exact ⟨_, _, _, rfl, rlin_one k1, rlin_one k2, rlin_one k3⟩
def lay1 : LayR := ⟨97, 2, 1, 3, 8, 1, 1, 1, 1⟩
theorem lay1_new : newLay ⟨97, 0, 2, 1, 2, 1, 1⟩ = lay1 := by kernel_rfl
theorem lay1_err : newErr ⟨97, 0, 2, 1, 2, 1, 1⟩ = 0 := by decide +kernel
theorem tab1_ok : tabOk 97 0 2 [row1] = true := by decide +kernel
theorem row1_a : (List.range 3).map (mrowP lay1 [5, 3] [0]) = [4, 1, 0] := by decide +kernel
theorem row1_b : (List.range 3).map (mrowP lay1 [5, 3] [10]) = [91, 1, 10] := by decide +kernel
theorem lay1_ok : LayOk lay1 := ⟨by decide, by decide, by decide, by decide, by decide, by decide, ⟨3, rfl⟩, by decide, by decide, by decide, by decide, by decide, by decide, by decide, by decide, by decide, by decide, by decide, by decide⟩
theorem lay1_cs : layCs lay1 = #[.int .u64 97, .int .i64 2, .int .i64 1, .int .i64 3, .int .i64 8, .int .i64 1, .int .i64 1, .int .i64 1, .int .i64 1, .int .i64 1, .int .i64 1] := rfl
theorem msgs4 (u : World) (t t2 : TypeId) : RRows (((((u.alloc (.cells #[.int .u64 1, .int .u64 0] t)).alloc (.cells #[.int .u64 1, .int .u64 0] t)).alloc (.cells #[.int .u64 1, .int .u64 0] t)).alloc (.cells #[.int .u64 1, .int .u64 0] t)).alloc (.cells #[.slice (some ⟨u.heap.size, 0, none⟩) 2 2, .slice (some ⟨u.heap.size + 1, 0, none⟩) 2 2, .slice (some ⟨u.heap.size + 1 + 1, 0, none⟩) 2 2, .slice (some ⟨u.heap.size + 1 + 1 + 1, 0, none⟩) 2 2] t2)) [.slice (some ⟨u.heap.size + 1 + 1 + 1 + 1, 0, none⟩) 4 4] [[1, 0], [1, 0], [1, 0], [1, 0]] ∧ Below u.heap.size u (((((u.alloc (.cells #[.int .u64 1, .int .u64 0] t)).alloc (.cells #[.int .u64 1, .int .u64 0] t)).alloc (.cells #[.int .u64 1, .int .u64 0] t)).alloc (.cells #[.int .u64 1, .int .u64 0] t)).alloc (.cells #[.slice (some ⟨u.heap.size, 0, none⟩) 2 2, .slice (some ⟨u.heap.size + 1, 0, none⟩) 2 2, .slice (some ⟨u.heap.size + 1 + 1, 0, none⟩) 2 2, .slice (some ⟨u.heap.size + 1 + 1 + 1, 0, none⟩) 2 2] t2)) := by
  have k1 : Blk (((((u.alloc (.cells #[.int .u64 1, .int .u64 0] t)).alloc (.cells #[.int .u64 1, .int .u64 0] t)).alloc (.cells #[.int .u64 1, .int .u64 0] t)).alloc (.cells #[.int .u64 1, .int .u64 0] t)).alloc (.cells #[.slice (some ⟨u.heap.size, 0, none⟩) 2 2, .slice (some ⟨u.heap.size + 1, 0, none⟩) 2 2, .slice (some ⟨u.heap.size + 1 + 1, 0, none⟩) 2 2, .slice (some ⟨u.heap.size + 1 + 1 + 1, 0, none⟩) 2 2] t2)) u.heap.size t (U64 [1, 0]).toArray := ((((Blk.new u t #[.int .u64 1, .int .u64 0]).alloc _).alloc _).alloc _).alloc _
  have k2 : Blk (((((u.alloc (.cells #[.int .u64 1, .int .u64 0] t)).alloc (.cells #[.int .u64 1, .int .u64 0] t)).alloc (.cells #[.int .u64 1, .int .u64 0] t)).alloc (.cells #[.int .u64 1, .int .u64 0] t)).alloc (.cells #[.slice (some ⟨u.heap.size, 0, none⟩) 2 2, .slice (some ⟨u.heap.size + 1, 0, none⟩) 2 2, .slice (some ⟨u.heap.size + 1 + 1, 0, none⟩) 2 2, .slice (some ⟨u.heap.size + 1 + 1 + 1, 0, none⟩) 2 2] t2)) (u.heap.size + 1) t (U64 [1, 0]).toArray := by
    have h : Blk ((u.alloc (.cells #[.int .u64 1, .int .u64 0] t)).alloc (.cells #[.int .u64 1, .int .u64 0] t)) (u.heap.size + 1) t #[.int .u64 1, .int .u64 0] := by simpa using Blk.new (u.alloc (.cells #[.int .u64 1, .int .u64 0] t)) t #[.int .u64 1, .int .u64 0]
    exact ((h.alloc _).alloc _).alloc _
  have k3 : Blk (((((u.alloc (.cells #[.int .u64 1, .int .u64 0] t)).alloc (.cells #[.int .u64 1, .int .u64 0] t)).alloc (.cells #[.int .u64 1, .int .u64 0] t)).alloc (.cells #[.int .u64 1, .int .u64 0] t)).alloc (.cells #[.slice (some ⟨u.heap.size, 0, none⟩) 2 2, .slice (some ⟨u.heap.size + 1, 0, none⟩) 2 2, .slice (some ⟨u.heap.size + 1 + 1, 0, none⟩) 2 2, .slice (some ⟨u.heap.size + 1 + 1 + 1, 0, none⟩) 2 2] t2)) (u.heap.size + 1 + 1) t (U64 [1, 0]).toArray := by
    have h : Blk (((u.alloc (.cells #[.int .u64 1, .int .u64 0] t)).alloc (.cells #[.int .u64 1, .int .u64 0] t)).alloc (.cells #[.int .u64 1, .int .u64 0] t)) (u.heap.size + 1 + 1) t #[.int .u64 1, .int .u64 0] := by simpa using Blk.new ((u.alloc (.cells #[.int .u64 1, .int .u64 0] t)).alloc (.cells #[.int .u64 1, .int .u64 0] t)) t #[.int .u64 1, .int .u64 0]
    exact (h.alloc _).alloc _
  have k4 : Blk (((((u.alloc (.cells #[.int .u64 1, .int .u64 0] t)).alloc (.cells #[.int .u64 1, .int .u64 0] t)).alloc (.cells #[.int .u64 1, .int .u64 0] t)).alloc (.cells #[.int .u64 1, .int .u64 0] t)).alloc (.cells #[.slice (some ⟨u.heap.size, 0, none⟩) 2 2, .slice (some ⟨u.heap.size + 1, 0, none⟩) 2 2, .slice (some ⟨u.heap.size + 1 + 1, 0, none⟩) 2 2, .slice (some ⟨u.heap.size + 1 + 1 + 1, 0, none⟩) 2 2] t2)) (u.heap.size + 1 + 1 + 1) t (U64 [1, 0]).toArray := by
    have h : Blk ((((u.alloc (.cells #[.int .u64 1, .int .u64 0] t)).alloc (.cells #[.int .u64 1, .int .u64 0] t)).alloc (.cells #[.int .u64 1, .int .u64 0] t)).alloc (.cells #[.int .u64 1, .int .u64 0] t)) (u.heap.size + 1 + 1 + 1) t #[.int .u64 1, .int .u64 0] := by simpa using Blk.new (((u.alloc (.cells #[.int .u64 1, .int .u64 0] t)).alloc (.cells #[.int .u64 1, .int .u64 0] t)).alloc (.cells #[.int .u64 1, .int .u64 0] t)) t #[.int .u64 1, .int .u64 0]
    exact h.alloc _
  have k5 : Blk (((((u.alloc (.cells #[.int .u64 1, .int .u64 0] t)).alloc (.cells #[.int .u64 1, .int .u64 0] t)).alloc (.cells #[.int .u64 1, .int .u64 0] t)).alloc (.cells #[.int .u64 1, .int .u64 0] t)).alloc (.cells #[.slice (some ⟨u.heap.size, 0, none⟩) 2 2, .slice (some ⟨u.heap.size + 1, 0, none⟩) 2 2, .slice (some ⟨u.heap.size + 1 + 1, 0, none⟩) 2 2, .slice (some ⟨u.heap.size + 1 + 1 + 1, 0, none⟩) 2 2] t2)) (u.heap.size + 1 + 1 + 1 + 1) t2 #[.slice (some ⟨u.heap.size, 0, none⟩) 2 2, .slice (some ⟨u.heap.size + 1, 0, none⟩) 2 2, .slice (some ⟨u.heap.size + 1 + 1, 0, none⟩) 2 2, .slice (some ⟨u.heap.size + 1 + 1 + 1, 0, none⟩) 2 2] := by
    simpa using Blk.new ((((u.alloc (.cells #[.int .u64 1, .int .u64 0] t)).alloc (.cells #[.int .u64 1, .int .u64 0] t)).alloc (.cells #[.int .u64 1, .int .u64 0] t)).alloc (.cells #[.int .u64 1, .int .u64 0] t)) t2 #[.slice (some ⟨u.heap.size, 0, none⟩) 2 2, .slice (some ⟨u.heap.size + 1, 0, none⟩) 2 2, .slice (some ⟨u.heap.size + 1 + 1, 0, none⟩) 2 2, .slice (some ⟨u.heap.size + 1 + 1 + 1, 0, none⟩) 2 2]
  refine ⟨frows_done (N := 0) (gb := none) (f := fun _ => [1, 0]) (fun k hk => ?_) k5 (by simp [maxLen]), ((((((Below.refl _ u).alloc (Nat.le_refl _) _).alloc (by simp) _).alloc (by simp; omega) _).alloc (by simp; omega) _).alloc (by simp; omega) _)⟩
  have h : ∀ {b : Nat}, Blk (((((u.alloc (.cells #[.int .u64 1, .int .u64 0] t)).alloc (.cells #[.int .u64 1, .int .u64 0] t)).alloc (.cells #[.int .u64 1, .int .u64 0] t)).alloc (.cells #[.int .u64 1, .int .u64 0] t)).alloc (.cells #[.slice (some ⟨u.heap.size, 0, none⟩) 2 2, .slice (some ⟨u.heap.size + 1, 0, none⟩) 2 2, .slice (some ⟨u.heap.size + 1 + 1, 0, none⟩) 2 2, .slice (some ⟨u.heap.size + 1 + 1 + 1, 0, none⟩) 2 2] t2)) b t (U64 [1, 0]).toArray → RWx 0 none (((((u.alloc (.cells #[.int .u64 1, .int .u64 0] t)).alloc (.cells #[.int .u64 1, .int .u64 0] t)).alloc (.cells #[.int .u64 1, .int .u64 0] t)).alloc (.cells #[.int .u64 1, .int .u64 0] t)).alloc (.cells #[.slice (some ⟨u.heap.size, 0, none⟩) 2 2, .slice (some ⟨u.heap.size + 1, 0, none⟩) 2 2, .slice (some ⟨u.heap.size + 1 + 1, 0, none⟩) 2 2, .slice (some ⟨u.heap.size + 1 + 1 + 1, 0, none⟩) 2 2] t2)) (.slice (some ⟨b, 0, none⟩) 2 2) [1, 0] := fun k => rwx_blkn k rfl (by decide) (by simp [maxLen]) (Nat.zero_le _) (fun e => by cases e)
  have : k = 0 ∨ k = 1 ∨ k = 2 ∨ k = 3 := by omega
  rcases this with rfl | rfl | rfl | rfl
  · exact ⟨_, rfl, h k1⟩
  · exact ⟨_, rfl, h k2⟩
  · exact ⟨_, rfl, h k3⟩
  · exact ⟨_, rfl, h k4⟩
theorem new1_post {e : Ending} (h : NewPost ⟨97, 0, 2, 1, 2, 1, 1⟩ e) : e = .returned (.tuple #[.agg (layCs lay1), .int .i64 0]) ∧ LayOk lay1 := by
  obtain ⟨lcs, er, rfl, h | h⟩ := h
  · exact absurd (h.2.2.trans lay1_err) h.1
  · obtain ⟨rfl, L, h1, h2, rfl⟩ := h
    have := h2.eq.trans lay1_new
    subst this
    exact ⟨rfl, h1⟩
end Go.Proofs.Ytefnagiffllhbaa

/- AwB -/
namespace Go.Proofs.Ytefnagiffllhbaa
open Go.RowKit

set_option maxRecDepth 100000 in
set_option maxHeartbeats 2000000 in
theorem awake_any (w : World) : Calls Try.prog 7 #[] w fun e w' => e = .returned (.bool true) ∧ Below w.heap.size w w' := by
  have HN := Lib.hid (fun A n c w hr => pNew_any 97 0 2 A n c [row1] 2 1 1 w hr tab1_ok)
  unfold newArgs tabV at HN
  have HF := Lib.hid (fun w => by have := mFromSeed_any lay1 5 w lay1_ok (by decide); rw [lay1_cs] at this; exact this)
  have HR := Lib.hid (show ∀ (A B : Option Addr) (c d : Nat) (msg masks : List Nat) (w : World), RWd w [.slice A 2 c] msg → RWd w [.slice B 1 d] masks → Calls Try.prog 16 #[.agg #[.int .u64 97, .int .i64 2, .int .i64 1, .int .i64 3, .int .i64 8, .int .i64 1, .int .i64 1, .int .i64 1, .int .i64 1, .int .i64 1, .int .i64 1], .slice A 2 c, .slice B 1 d] w fun e w' => ∃ g, e = .returned (.slice (some ⟨g, 0, none⟩) 3 3) ∧ w.heap.size ≤ g ∧ Blk w' g 22 (fillC 3 (mrowP lay1 msg masks)) ∧ Below w.heap.size w w' from fun A B c d msg masks w hl hk => by
    have := mRow_any lay1 A B 2 c 1 d msg masks w lay1_ok hl hk rfl (by omega)
    rw [lay1_cs] at this
    exact this)
  have HV := Lib.hid (fun A0 A1 A2 A3 A4 n0 c0 n1 c1 n2 c2 n3 c3 n4 c4 rows l1 l2 l3 l4 w h0 h1 h2 h3 h4 => by have := mValid_any lay1 A0 A1 A2 A3 A4 n0 c0 n1 c1 n2 c2 n3 c3 n4 c4 rows l1 l2 l3 l4 w lay1_ok h0 h1 h2 h3 h4; rw [lay1_cs] at this; exact this)
  have HC := Lib.hid (fun A0 A1 A2 A3 A4 AM n0 n1 n2 n3 n4 nM c0 c1 c2 c3 c4 cM m r co li qu w hm hr hc hl hq hlen hml hrl hT h1 h2 h3 => by have := mColumns_any lay1 A0 A1 A2 A3 A4 AM n0 n1 n2 n3 n4 nM c0 c1 c2 c3 c4 cM m r co li qu w lay1_ok hm hr hc hl hq hlen hml hrl hT h1 h2 h3; rw [lay1_cs] at this; exact this)
  have HS := Lib.hid (fun A1 A2 n1 c1 n2 c2 l1 l2 w h1 h2 => rSame01_any A1 A2 n1 c1 n2 c2 l1 l2 w h1 h2)
  obtain ⟨k1, k2, k3, hb0, hsz⟩ := boxes3 w 67 67 67 #[.int .i64 1, .int .u64 1] #[.int .i64 1, .int .u64 1] #[.int .i64 1, .int .u64 1]
  go_enter Try.func7, Try.ntmps7
  go_upto_region 2 with fail
  generalize ((w.alloc _).alloc _).alloc _ = w3 at k1 k2 k3 hb0 hsz ⊢
  have k4 : Blk (w3.alloc (.cells #[.slice (some ⟨w.heap.size, 0, none⟩) 1 1, .slice (some ⟨w.heap.size + 1, 0, none⟩) 1 1, .slice (some ⟨w.heap.size + 1 + 1, 0, none⟩) 1 1] 71)) (w.heap.size + 1 + 1 + 1) 71 #[.slice (some ⟨w.heap.size, 0, none⟩) 1 1, .slice (some ⟨w.heap.size + 1, 0, none⟩) 1 1, .slice (some ⟨w.heap.size + 1 + 1, 0, none⟩) 1 1] := by
    have := Blk.new w3 71 #[.slice (some ⟨w.heap.size, 0, none⟩) 1 1, .slice (some ⟨w.heap.size + 1, 0, none⟩) 1 1, .slice (some ⟨w.heap.size + 1 + 1, 0, none⟩) 1 1]
    rw [hsz] at this
    exact this
  have hal := (Below.refl w3.heap.size w3).alloc (Nat.le_refl _) (.cells #[.slice (some ⟨w.heap.size, 0, none⟩) 1 1, .slice (some ⟨w.heap.size + 1, 0, none⟩) 1 1, .slice (some ⟨w.heap.size + 1 + 1, 0, none⟩) 1 1] 71)
  have hsz4 : (w3.alloc (.cells #[.slice (some ⟨w.heap.size, 0, none⟩) 1 1, .slice (some ⟨w.heap.size + 1, 0, none⟩) 1 1, .slice (some ⟨w.heap.size + 1 + 1, 0, none⟩) 1 1] 71)).heap.size = w.heap.size + 4 := by simp [hsz]
  replace k1 := k1.below hal k1.lt
  replace k2 := k2.below hal k2.lt
  replace k3 := k3.below hal k3.lt
  replace hb0 := below_chain hb0 hal
  clear hal hsz
  generalize w3.alloc _ = w4 at k1 k2 k3 k4 hb0 hsz4 ⊢
  have k5 : Blk (w4.alloc (.cells #[.int .u64 97, .int .i64 0, .int .i64 2, .slice (some ⟨w.heap.size + 1 + 1 + 1, 0, none⟩) 1 1] 25)) (w.heap.size + 1 + 1 + 1 + 1) 25 #[.int .u64 97, .int .i64 0, .int .i64 2, .slice (some ⟨w.heap.size + 1 + 1 + 1, 0, none⟩) 1 1] := by
    have := Blk.new w4 25 #[.int .u64 97, .int .i64 0, .int .i64 2, .slice (some ⟨w.heap.size + 1 + 1 + 1, 0, none⟩) 1 1]
    rw [hsz4] at this
    exact this
  have hal := (Below.refl w4.heap.size w4).alloc (Nat.le_refl _) (.cells #[.int .u64 97, .int .i64 0, .int .i64 2, .slice (some ⟨w.heap.size + 1 + 1 + 1, 0, none⟩) 1 1] 25)
  have hsz5 : (w4.alloc (.cells #[.int .u64 97, .int .i64 0, .int .i64 2, .slice (some ⟨w.heap.size + 1 + 1 + 1, 0, none⟩) 1 1] 25)).heap.size = w.heap.size + 5 := by simp [hsz4]
  replace k1 := k1.below hal k1.lt
  replace k2 := k2.below hal k2.lt
  replace k3 := k3.below hal k3.lt
  replace k4 := k4.below hal k4.lt
  replace hb0 := below_chain hb0 hal
  clear hal hsz4
  generalize w4.alloc _ = w5 at k1 k2 k3 k4 k5 hb0 hsz5 ⊢
  have hr := rrow_one k1 k2 k3 k4
  have c5 := k5.cell
  have HSZ := Lib.hid hsz5
  clear k1 k2 k3 k4 hsz5
  go_wp2_with fail
  refine (HN.out _ _ _ _ hr).mono ?_
  rintro e w6 ⟨hpost, hb6⟩
  obtain ⟨rfl, hL⟩ := new1_post hpost
  replace hb0 := below_chain hb0 hb6
  clear hb6 hr c5 k5 hpost HN
  rw [lay1_cs]
  go_upto_region 3 with fail
  have kl := Blk.new w6 41 #[.int .u64 97, .int .i64 2, .int .i64 1, .int .i64 3, .int .i64 8, .int .i64 1, .int .i64 1, .int .i64 1, .int .i64 1, .int .i64 1, .int .i64 1]
  have hal := (Below.refl w6.heap.size w6).alloc (Nat.le_refl _) (.cells #[.int .u64 97, .int .i64 2, .int .i64 1, .int .i64 3, .int .i64 8, .int .i64 1, .int .i64 1, .int .i64 1, .int .i64 1, .int .i64 1, .int .i64 1] 41)
  have hg2 : w.heap.size ≤ w6.heap.size := hb0.size
  replace hb0 := below_chain hb0 hal
  clear hal hL HSZ
  generalize w6.alloc _ = w7 at kl hb0 ⊢
  generalize w6.heap.size = gl at kl hg2 ⊢
  have cl := kl.cell
  go_wp2_with fail
  refine (HF.out _).mono ?_
  rintro e w8 ⟨v0, v1, v2, v3, v4, rfl, r0, r1, r2, r3, r4, hb8⟩
  replace kl := kl.below hb8 kl.lt
  replace hb0 := below_chain hb0 hb8
  clear hb8 cl HF
  have hco := coins_seed lay1 5 (by decide)
  obtain ⟨A0, n0, c0, e0, -⟩ := id r0
  obtain ⟨A1, n1, c1, e1, -⟩ := id r1
  obtain ⟨A2, n2, c2, e2, -⟩ := id r2
  obtain ⟨A3, n3, c3, e3, -⟩ := id r3
  obtain ⟨A4, n4, c4, e4, -⟩ := id r4
  simp only [List.cons.injEq, and_true] at e0 e1 e2 e3 e4
  subst e0 e1 e2 e3 e4
  go_upto_region 6 with fail
  have kc := Blk.new w8 39 #[.slice A0 n0 c0, .slice A1 n1 c1, .slice A2 n2 c2, .slice A3 n3 c3, .slice A4 n4 c4]
  have hb := (Below.refl w8.heap.size w8).alloc (Nat.le_refl _) (.cells #[.slice A0 n0 c0, .slice A1 n1 c1, .slice A2 n2 c2, .slice A3 n3 c3, .slice A4 n4 c4] 39)
  replace kl := kl.below hb kl.lt
  replace hb0 := below_chain hb0 hb
  replace r0 := kept_RRows _ _ _ _ hb r0
  replace r1 := kept_RWd _ _ _ _ hb r1
  replace r2 := kept_RWd _ _ _ _ hb r2
  replace r3 := kept_RWd _ _ _ _ hb r3
  replace r4 := kept_RWd _ _ _ _ hb r4
  clear hb
  generalize w8.alloc _ = w9 at kl kc hb0 r0 r1 r2 r3 r4 ⊢
  generalize w8.heap.size = gc at kc ⊢
  have cl := kl.cell
  obtain ⟨ka, kb, hb, -⟩ := boxes2 w9 22 22 #[.int .u64 5, .int .u64 3] #[.int .u64 0]
  have hx : RWd _ [.slice (some ⟨w9.heap.size, 0, none⟩) 2 2] [5, 3] := lw_litn (l := [5, 3]) ka rfl (by decide) (by simp [maxLen])
  have hy : RWd _ [.slice (some ⟨w9.heap.size + 1, 0, none⟩) 1 1] [0] := lw_litn (l := [0]) kb rfl (by decide) (by simp [maxLen])
  have lc := kc.lt
  have ll := kl.lt
  replace kl := kl.below hb kl.lt
  replace kc := kc.below hb kc.lt
  replace hb0 := below_chain hb0 hb
  replace r0 := kept_RRows _ _ _ _ hb r0
  replace r1 := kept_RWd _ _ _ _ hb r1
  replace r2 := kept_RWd _ _ _ _ hb r2
  replace r3 := kept_RWd _ _ _ _ hb r3
  replace r4 := kept_RWd _ _ _ _ hb r4
  go_wp2_with fail
  clear hb ka kb cl lc ll
  generalize (w9.alloc _).alloc _ = x1 at kl kc hb0 r0 r1 r2 r3 r4 hx hy ⊢
  refine (HR.out _ _ _ _ [5, 3] [0] _ hx hy).mono ?_
  rintro e y1 ⟨gr1, rfl, -, kr, hb⟩
  replace kl := kl.below hb kl.lt
  replace kc := kc.below hb kc.lt
  replace hb0 := below_chain hb0 hb
  replace r0 := kept_RRows _ _ _ _ hb r0
  replace r1 := kept_RWd _ _ _ _ hb r1
  replace r2 := kept_RWd _ _ _ _ hb r2
  replace r3 := kept_RWd _ _ _ _ hb r3
  replace r4 := kept_RWd _ _ _ _ hb r4
  clear hb hx hy
  have hz : RWd y1 [.slice (some ⟨gr1, 0, none⟩) 3 3] [4, 1, 0] := by
    rw [fill_U64, row1_a] at kr
    exact lw_litn kr rfl (by decide) (by simp [maxLen])
  have ka := Blk.new y1 22 (U64 [4, 1, 0]).toArray
  have hb := (Below.refl y1.heap.size y1).alloc (Nat.le_refl _) (.cells (U64 [4, 1, 0]).toArray 22)
  have hu : RWd _ [.slice (some ⟨y1.heap.size, 0, none⟩) 3 3] [4, 1, 0] := lw_litn ka rfl (by decide) (by simp [maxLen])
  replace hz := kept_RWd _ _ _ _ hb hz
  replace kl := kl.below hb kl.lt
  replace kc := kc.below hb kc.lt
  replace hb0 := below_chain hb0 hb
  replace r0 := kept_RRows _ _ _ _ hb r0
  replace r1 := kept_RWd _ _ _ _ hb r1
  replace r2 := kept_RWd _ _ _ _ hb r2
  replace r3 := kept_RWd _ _ _ _ hb r3
  replace r4 := kept_RWd _ _ _ _ hb r4
  go_wp2_with fail
  refine (HS.out _ _ _ _ _ _ [4, 1, 0] [4, 1, 0] _ hz hu).mono ?_
  rintro e z1 ⟨rfl, hb⟩
  replace kl := kl.below hb kl.lt
  replace kc := kc.below hb kc.lt
  replace hb0 := below_chain hb0 hb
  replace r0 := kept_RRows _ _ _ _ hb r0
  replace r1 := kept_RWd _ _ _ _ hb r1
  replace r2 := kept_RWd _ _ _ _ hb r2
  replace r3 := kept_RWd _ _ _ _ hb r3
  replace r4 := kept_RWd _ _ _ _ hb r4
  clear hb ka kr hz hu
  rw [show decide (([4, 1, 0] : List Nat) = [4, 1, 0]) = true by decide]
  have cl := kl.cell
  obtain ⟨ka, kb, hb, -⟩ := boxes2 z1 22 22 #[.int .u64 5, .int .u64 3] #[.int .u64 10]
  have hx : RWd _ [.slice (some ⟨z1.heap.size, 0, none⟩) 2 2] [5, 3] := lw_litn (l := [5, 3]) ka rfl (by decide) (by simp [maxLen])
  have hy : RWd _ [.slice (some ⟨z1.heap.size + 1, 0, none⟩) 1 1] [10] := lw_litn (l := [10]) kb rfl (by decide) (by simp [maxLen])
  have lc := kc.lt
  have ll := kl.lt
  replace kl := kl.below hb kl.lt
  replace kc := kc.below hb kc.lt
  replace hb0 := below_chain hb0 hb
  replace r0 := kept_RRows _ _ _ _ hb r0
  replace r1 := kept_RWd _ _ _ _ hb r1
  replace r2 := kept_RWd _ _ _ _ hb r2
  replace r3 := kept_RWd _ _ _ _ hb r3
  replace r4 := kept_RWd _ _ _ _ hb r4
  go_wp2_with fail
  clear hb ka kb cl lc ll
  generalize (z1.alloc _).alloc _ = x2 at kl kc hb0 r0 r1 r2 r3 r4 hx hy ⊢
  refine (HR.out _ _ _ _ [5, 3] [10] _ hx hy).mono ?_
  rintro e y2 ⟨gr2, rfl, -, kr, hb⟩
  replace kl := kl.below hb kl.lt
  replace kc := kc.below hb kc.lt
  replace hb0 := below_chain hb0 hb
  replace r0 := kept_RRows _ _ _ _ hb r0
  replace r1 := kept_RWd _ _ _ _ hb r1
  replace r2 := kept_RWd _ _ _ _ hb r2
  replace r3 := kept_RWd _ _ _ _ hb r3
  replace r4 := kept_RWd _ _ _ _ hb r4
  clear hb hx hy
  have hz : RWd y2 [.slice (some ⟨gr2, 0, none⟩) 3 3] [91, 1, 10] := by
    rw [fill_U64, row1_b] at kr
    exact lw_litn kr rfl (by decide) (by simp [maxLen])
  have ka := Blk.new y2 22 (U64 [91, 1, 10]).toArray
  have hb := (Below.refl y2.heap.size y2).alloc (Nat.le_refl _) (.cells (U64 [91, 1, 10]).toArray 22)
  have hu : RWd _ [.slice (some ⟨y2.heap.size, 0, none⟩) 3 3] [91, 1, 10] := lw_litn ka rfl (by decide) (by simp [maxLen])
  replace hz := kept_RWd _ _ _ _ hb hz
  replace kl := kl.below hb kl.lt
  replace kc := kc.below hb kc.lt
  replace hb0 := below_chain hb0 hb
  replace r0 := kept_RRows _ _ _ _ hb r0
  replace r1 := kept_RWd _ _ _ _ hb r1
  replace r2 := kept_RWd _ _ _ _ hb r2
  replace r3 := kept_RWd _ _ _ _ hb r3
  replace r4 := kept_RWd _ _ _ _ hb r4
  go_wp2_with fail
  refine (HS.out _ _ _ _ _ _ [91, 1, 10] [91, 1, 10] _ hz hu).mono ?_
  rintro e z2 ⟨rfl, hb⟩
  replace kl := kl.below hb kl.lt
  replace kc := kc.below hb kc.lt
  replace hb0 := below_chain hb0 hb
  replace r0 := kept_RRows _ _ _ _ hb r0
  replace r1 := kept_RWd _ _ _ _ hb r1
  replace r2 := kept_RWd _ _ _ _ hb r2
  replace r3 := kept_RWd _ _ _ _ hb r3
  replace r4 := kept_RWd _ _ _ _ hb r4
  clear hb ka kr hz hu
  rw [show decide (([91, 1, 10] : List Nat) = [91, 1, 10]) = true by decide]
  have cl := kl.cell
  have cc := kc.cell
  go_wp2_with fail
  refine (HV.out A0 A1 A2 A3 A4 n0 c0 n1 c1 n2 c2 n3 c3 n4 c4 _ _ _ _ _ _ r0 r1 r2 r3 r4).mono ?_
  rintro e u1 ⟨rfl, hb⟩
  rw [hco]
  replace kl := kl.below hb kl.lt
  replace kc := kc.below hb kc.lt
  replace hb0 := below_chain hb0 hb
  replace r0 := kept_RRows _ _ _ _ hb r0
  replace r1 := kept_RWd _ _ _ _ hb r1
  replace r2 := kept_RWd _ _ _ _ hb r2
  replace r3 := kept_RWd _ _ _ _ hb r3
  replace r4 := kept_RWd _ _ _ _ hb r4
  clear hb cl cc hco HV HR HS
  have cl := kl.cell
  have ll := kl.lt
  have lc := kc.lt
  have cw : ∀ i, (((((u1.alloc (.cells #[.int .u64 1, .int .u64 0] 22)).alloc (.cells #[.int .u64 1, .int .u64 0] 22)).alloc (.cells #[.int .u64 1, .int .u64 0] 22)).alloc (.cells #[.int .u64 1, .int .u64 0] 22)).alloc (.cells #[.slice (some ⟨u1.heap.size, 0, none⟩) 2 2, .slice (some ⟨u1.heap.size + 1, 0, none⟩) 2 2, .slice (some ⟨u1.heap.size + 1 + 1, 0, none⟩) 2 2, .slice (some ⟨u1.heap.size + 1 + 1 + 1, 0, none⟩) 2 2] 28)).cell? ⟨gc, i, none⟩ = #[.slice A0 n0 c0, .slice A1 n1 c1, .slice A2 n2 c2, .slice A3 n3 c3, .slice A4 n4 c4][i]? := fun i => (((((kc.alloc _).alloc _).alloc _).alloc _).alloc _).cell i
  go_wp2_with fail
  obtain ⟨hms, hb⟩ := msgs4 u1 22 28
  clear cw cl ll lc kl kc
  replace hb0 := below_chain hb0 hb
  replace r0 := kept_RRows _ _ _ _ hb r0
  replace r1 := kept_RWd _ _ _ _ hb r1
  replace r2 := kept_RWd _ _ _ _ hb r2
  replace r3 := kept_RWd _ _ _ _ hb r3
  clear hb
  have hq : ∀ x ∈ rowsP lay1 5 (lay1.a + lay1.b + lay1.b + lay1.b), x.length ≤ 2000 := fun x hx => by
    obtain ⟨k, -, rfl⟩ := List.mem_map.1 hx
    simp [vecP, lay1]
  refine (HC.out A0 A1 A2 A3 A4 _ n0 n1 n2 n3 n4 _ c0 c1 c2 c3 c4 _ _ _ _ _ _ _ hms r0 r1 r2 r3 (by simp [rowsP, lay1]) (by intro x hx; simp at hx; subst hx; rfl) hq (by simp) (by simp [vecP, lay1]) (by simp [vecP, lay1]) (by simp [vecP, lay1])).mono ?_
  rintro e u2 ⟨v, rfl, hv, hb⟩
  obtain ⟨Av, nv, cv, ev, hlen, -⟩ := hv
  simp only [List.cons.injEq, and_true] at ev
  subst ev
  have hn : nv = 8 := by rw [← hlen]; simp [lay1]
  subst hn
  replace hb0 := below_chain hb0 hb
  clear hms r0 r1 r2 r3 r4 hq hb hlen HC
  go_wp2
  go_ret
  exact ⟨rfl, hb0⟩
end Go.Proofs.Ytefnagiffllhbaa

/- Rt25 -/
namespace Go.Proofs.Ytefnagiffllhbaa
open Go.RowKit

set_option linter.unusedVariables false in
set_option maxRecDepth 100000 in
set_option maxHeartbeats 2000000 in
theorem right25_any (p : Nat) (pub vars : Int) (A B : Option Addr) (n c m d : Nat) (rows : List RowR) (ws : List Nat) (bl bw qs : Int) (w : World) (hr : RSl 3 RRow w [.slice A n c] rows) (hw : RWd w [.slice B m d] ws) (hp : p < 18446744073709551616) :
    Calls Try.prog 6 #[.agg (caseCs p pub vars (.slice A n c) bl bw qs (.slice B m d))] w fun e w' => (RightPost ⟨p, pub, vars, rows.length, bl, bw, qs⟩ e ∧ (∀ v, e = .returned (.tuple #[v, .bool true]) → tabOk p pub vars rows = true ∧ asgOk p vars ws = true)) ∧ Below w.heap.size w w' := by
  have HR := Lib.hid (fun w' (hb : Below w.heap.size w w') => rRight24_gen 40 p pub vars A B n c m d rows ws bl bw qs w' (kept_RSl kept_RRow _ _ _ _ hb hr) (kept_RWd _ _ _ _ hb hw) hp)
  obtain ⟨A', n', c', he, -⟩ := hr
  simp at he
  obtain ⟨rfl, rfl, rfl⟩ := he
  unfold caseCs at *
  have hb0 : Below w.heap.size w ((w.alloc (.cells #[.int .u64 (p : Int), .int .i64 pub, .int .i64 vars, .slice A n c, .int .i64 bl, .int .i64 bw, .int .i64 qs, .slice B m d] 30)).alloc (.cells #[.int .u64 0, .int .i64 0, .int .i64 0, .int .i64 0, .int .i64 0, .int .i64 0, .int .i64 0, .int .i64 0, .int .i64 0, .int .i64 0, .int .i64 0] 33)) := ((Below.refl _ w).alloc (Nat.le_refl _) _).alloc (by simp) _
  go_enter Try.func6, Try.ntmps6
  go_wp2_with fail
  refine (HR.out _ hb0).mono ?_
  rintro e w1 ⟨⟨hpost, htt⟩, hb⟩
  obtain ⟨k1, k2, hbw⟩ := two_boxes hb
  have l2 := k2.lt
  clear hb
  obtain ⟨y0, y1, y2, y3, y4, y5, y6, y7, y8, y9, y10, b, rfl, hL⟩ := hpost
  have HE := Lib.hid (show RightPost ⟨p, pub, vars, rows.length, bl, bw, qs⟩ (.returned (.tuple #[.agg #[.int .u64 y0, .int .i64 y1, .int .i64 y2, .int .i64 y3, .int .i64 y4, .int .i64 y5, .int .i64 y6, .int .i64 y7, .int .i64 y8, .int .i64 y9, .int .i64 y10], .bool b])) from ⟨_, _, _, _, _, _, _, _, _, _, _, _, rfl, hL⟩)
  have HT := Lib.hid htt
  clear hL htt
  obtain ⟨c2, f2⟩ := k2.cells'
  go_wp2_with fail
  have kW := set11_blk k2 (.int .u64 y0) (.int .i64 y1) (.int .i64 y2) (.int .i64 y3) (.int .i64 y4) (.int .i64 y5) (.int .i64 y6) (.int .i64 y7) (.int .i64 y8) (.int .i64 y9) (.int .i64 y10)
  have hW := set11_below (g := w.heap.size + 1) hbw (by omega) (.int .u64 y0) (.int .i64 y1) (.int .i64 y2) (.int .i64 y3) (.int .i64 y4) (.int .i64 y5) (.int .i64 y6) (.int .i64 y7) (.int .i64 y8) (.int .i64 y9) (.int .i64 y10)
  revert kW hW
  generalize ((((((((((World.setCell _ _ _).setCell _ _).setCell _ _).setCell _ _).setCell _ _).setCell _ _).setCell _ _).setCell _ _).setCell _ _).setCell _ _).setCell _ _ = wf
  intro kW hW
  have c4' := kW.cell
  exact bodyPost_ret (v := .tuple #[.agg #[.int .u64 y0, .int .i64 y1, .int .i64 y2, .int .i64 y3, .int .i64 y4, .int .i64 y5, .int .i64 y6, .int .i64 y7, .int .i64 y8, .int .i64 y9, .int .i64 y10], .bool b]) (by simp [results, Try.results6, go_sem, c4']) rfl ⟨⟨HE.out, HT.out⟩, hW⟩
end Go.Proofs.Ytefnagiffllhbaa

/- SamB -/
namespace Go.Proofs.Ytefnagiffllhbaa
open Go.RowKit

set_option maxRecDepth 100000 in
set_option maxHeartbeats 2000000 in
theorem rSame25_any (A0 A1 A2 A3 A4 B0 B1 B2 B3 B4 : Option Addr) (n0 c0 n1 c1 n2 c2 n3 c3 n4 c4 m0 d0 m1 d1 m2 d2 m3 d3 m4 d4 : Nat) (r s : List (List Nat)) (x1 x2 x3 x4 y1 y2 y3 y4 : List Nat) (w : World)
    (h0 : RRows w [.slice A0 n0 c0] r) (h1 : RWd w [.slice A1 n1 c1] x1) (h2 : RWd w [.slice A2 n2 c2] x2) (h3 : RWd w [.slice A3 n3 c3] x3) (h4 : RWd w [.slice A4 n4 c4] x4)
    (k0 : RRows w [.slice B0 m0 d0] s) (k1 : RWd w [.slice B1 m1 d1] y1) (k2 : RWd w [.slice B2 m2 d2] y2) (k3 : RWd w [.slice B3 m3 d3] y3) (k4 : RWd w [.slice B4 m4 d4] y4) :
    Calls Try.prog 10 #[.agg #[.slice A0 n0 c0, .slice A1 n1 c1, .slice A2 n2 c2, .slice A3 n3 c3, .slice A4 n4 c4], .agg #[.slice B0 m0 d0, .slice B1 m1 d1, .slice B2 m2 d2, .slice B3 m3 d3, .slice B4 m4 d4]] w fun e w' => e = .returned (.bool (decide (r = s) && (decide (x1 = y1) && (decide (x2 = y2) && (decide (x3 = y3) && decide (x4 = y4)))))) ∧ Below w.heap.size w w' := by
  have HS0 := Lib.hid (fun w' (hb : Below w.heap.size w w') => rSame24_any A0 B0 n0 c0 m0 d0 r s w' (kept_RRows _ _ _ _ hb h0) (kept_RRows _ _ _ _ hb k0))
  have HS1 := Lib.hid (fun w' (hb : Below w.heap.size w w') => rSame01_any A1 B1 n1 c1 m1 d1 x1 y1 w' (kept_RWd _ _ _ _ hb h1) (kept_RWd _ _ _ _ hb k1))
  have HS2 := Lib.hid (fun w' (hb : Below w.heap.size w w') => rSame01_any A2 B2 n2 c2 m2 d2 x2 y2 w' (kept_RWd _ _ _ _ hb h2) (kept_RWd _ _ _ _ hb k2))
  have HS3 := Lib.hid (fun w' (hb : Below w.heap.size w w') => rSame01_any A3 B3 n3 c3 m3 d3 x3 y3 w' (kept_RWd _ _ _ _ hb h3) (kept_RWd _ _ _ _ hb k3))
  have HS4 := Lib.hid (fun w' (hb : Below w.heap.size w w') => rSame01_any A4 B4 n4 c4 m4 d4 x4 y4 w' (kept_RWd _ _ _ _ hb h4) (kept_RWd _ _ _ _ hb k4))
  obtain ⟨ka, kb, hb0, hsz⟩ := boxes2 w 39 39 #[.slice A0 n0 c0, .slice A1 n1 c1, .slice A2 n2 c2, .slice A3 n3 c3, .slice A4 n4 c4] #[.slice B0 m0 d0, .slice B1 m1 d1, .slice B2 m2 d2, .slice B3 m3 d3, .slice B4 m4 d4]
  clear h0 h1 h2 h3 h4 k0 k1 k2 k3 k4
  obtain ⟨ans, ha⟩ : ∃ ans, ans = (decide (r = s) && (decide (x1 = y1) && (decide (x2 = y2) && (decide (x3 = y3) && decide (x4 = y4))))) := ⟨_, rfl⟩
  rw [← ha]
  generalize decide (r = s) = b0 at *
  generalize decide (x1 = y1) = b1 at *
  generalize decide (x2 = y2) = b2 at *
  generalize decide (x3 = y3) = b3 at *
  generalize decide (x4 = y4) = b4 at *
  have HA := Lib.hid ha
  clear ha
  go_enter Try.func10, Try.ntmps10
  go_upto_region 1 with fail
  generalize (w.alloc _).alloc _ = w3 at ka kb hb0 hsz ⊢
  clear hsz
  have ca := ka.cell
  have cb := kb.cell
  have HSa0 := Lib.hid (HS0.out _ hb0)
  cases b0
  · have HF := Lib.hid (show ans = false by rw [HA.out]; rfl)
    go_wp2_with fail
    refine HSa0.out.mono ?_
    rintro e v ⟨rfl, hb⟩
    go_wp2
    go_ret
    exact ⟨by rw [HF.out]; rfl, below_chain hb0 hb⟩
  go_wp2_with fail
  refine HSa0.out.mono ?_
  rintro e v0 ⟨rfl, hb⟩
  replace ka := ka.below hb ka.lt
  replace kb := kb.below hb kb.lt
  replace hb0 := below_chain hb0 hb
  clear ca cb hb HSa0 HS0
  have ca := ka.cell
  have cb := kb.cell
  have HSa1 := Lib.hid (HS1.out _ hb0)
  cases b1
  · have HF := Lib.hid (show ans = false by rw [HA.out]; rfl)
    go_wp2_with fail
    refine HSa1.out.mono ?_
    rintro e v ⟨rfl, hb⟩
    go_wp2
    go_ret
    exact ⟨by rw [HF.out]; rfl, below_chain hb0 hb⟩
  go_wp2_with fail
  refine HSa1.out.mono ?_
  rintro e v1 ⟨rfl, hb⟩
  replace ka := ka.below hb ka.lt
  replace kb := kb.below hb kb.lt
  replace hb0 := below_chain hb0 hb
  clear ca cb hb HSa1 HS1
  have ca := ka.cell
  have cb := kb.cell
  have HSa2 := Lib.hid (HS2.out _ hb0)
  cases b2
  · have HF := Lib.hid (show ans = false by rw [HA.out]; rfl)
    go_wp2_with fail
    refine HSa2.out.mono ?_
    rintro e v ⟨rfl, hb⟩
    go_wp2
    go_ret
    exact ⟨by rw [HF.out]; rfl, below_chain hb0 hb⟩
  go_wp2_with fail
  refine HSa2.out.mono ?_
  rintro e v2 ⟨rfl, hb⟩
  replace ka := ka.below hb ka.lt
  replace kb := kb.below hb kb.lt
  replace hb0 := below_chain hb0 hb
  clear ca cb hb HSa2 HS2
  have ca := ka.cell
  have cb := kb.cell
  have HSa3 := Lib.hid (HS3.out _ hb0)
  cases b3
  · have HF := Lib.hid (show ans = false by rw [HA.out]; rfl)
    go_wp2_with fail
    refine HSa3.out.mono ?_
    rintro e v ⟨rfl, hb⟩
    go_wp2
    go_ret
    exact ⟨by rw [HF.out]; rfl, below_chain hb0 hb⟩
  go_wp2_with fail
  refine HSa3.out.mono ?_
  rintro e v3 ⟨rfl, hb⟩
  replace ka := ka.below hb ka.lt
  replace kb := kb.below hb kb.lt
  replace hb0 := below_chain hb0 hb
  clear ca cb hb HSa3 HS3
  have ca := ka.cell
  have cb := kb.cell
  have HSa4 := Lib.hid (HS4.out _ hb0)
  have HF := Lib.hid (show ans = b4 by rw [HA.out]; rfl)
  go_wp2_with fail
  refine HSa4.out.mono ?_
  rintro e v ⟨rfl, hb⟩
  go_wp2
  go_ret
  exact ⟨by rw [HF.out]; rfl, below_chain hb0 hb⟩

set_option maxRecDepth 100000 in
set_option maxHeartbeats 400000 in
theorem own_any (L : LayR) (w : World) :
    Calls Try.prog 9 #[.agg (layCs L)] w fun e w' => e = .returned (.agg (layCs L)) ∧ Below w.heap.size w w' := by
  unfold layCs
  go_enter Try.func9, Try.ntmps9
  go_wp2_with fail
  exact bodyPost_ret (v := .agg #[.int .u64 (L.p : Int), .int .i64 (L.block : Int), .int .i64 (L.queries : Int), .int .i64 (L.k : Int), .int .i64 (L.n : Int), .int .i64 (L.secret : Int), .int .i64 (L.rows : Int), .int .i64 (L.a : Int), .int .i64 (L.b : Int), .int .i64 (L.b : Int), .int .i64 (L.b : Int)]) (by simp [results, Try.results9, go_sem]) rfl ⟨rfl, ((Below.refl _ w).alloc (Nat.le_refl _) _).alloc (by simp) _⟩
end Go.Proofs.Ytefnagiffllhbaa

/- PoA -/
namespace Go.Proofs.Ytefnagiffllhbaa

/-- A list without the zeros at its end. -/
def trimZ : List Nat → List Nat
  | [] => []
  | x :: l => if trimZ l = [] ∧ x = 0 then [] else x :: trimZ l
theorem trimZ_snoc0 : ∀ l : List Nat, trimZ (l ++ [0]) = trimZ l
  | [] => rfl
  | x :: l => by
    rw [List.cons_append, trimZ, trimZ_snoc0 l]
    rfl
theorem trimZ_snoc {y : Nat} (hy : y ≠ 0) : ∀ l : List Nat, trimZ (l ++ [y]) = l ++ [y]
  | [] => by simp [trimZ, hy]
  | x :: l => by
    rw [List.cons_append, trimZ, trimZ_snoc hy l]
    simp
theorem trimZ_len : ∀ l : List Nat, (trimZ l).length ≤ l.length
  | [] => Nat.le_refl _
  | x :: l => by
    rw [trimZ]
    split
    · exact Nat.zero_le _
    · have := trimZ_len l
      simpa using this
theorem trimZ_get : ∀ (l : List Nat) (i : Nat), (trimZ l).getD i 0 = l.getD i 0
  | [], _ => rfl
  | x :: l, i => by
    rw [trimZ]
    split
    · rename_i h
      cases i with
      | zero => simp [h.2]
      | succ i =>
        have := trimZ_get l i
        rw [h.1] at this
        simpa using this
    · cases i with
      | zero => rfl
      | succ i => simpa using trimZ_get l i
theorem trimZ_mem {l : List Nat} {x : Nat} : x ∈ trimZ l → x ∈ l := by
  induction l with
  | nil => exact id
  | cons y l ih =>
    rw [trimZ]
    split
    · intro h; cases h
    · intro h
      rcases List.mem_cons.1 h with h | h
      · exact List.mem_cons.2 (.inl h)
      · exact List.mem_cons.2 (.inr (ih h))
theorem trimZ_id (l : List Nat) (h : trimZ l = []) : ∀ i, l.getD i 0 = 0 := fun i => by
  rw [← trimZ_get, h]
  simp

/-- ref03.Trim. -/
def trimP (p : Nat) (l : List Nat) : List Nat := trimZ (l.map (· % p))
/-- ref03.Add. -/
def addR (p : Nat) (a b : List Nat) (i : Nat) : Nat := (a.getD i 0 + b.getD i 0) % p
def addP (p : Nat) (a b : List Nat) : List Nat := trimP p ((List.range (max a.length b.length)).map (addR p a b))
/-- ref03.Scale. -/
def scaleP (p : Nat) (a : List Nat) (n : Nat) : List Nat := trimP p (a.map fun x => x * n % p)
/-- ref03.Shift. -/
def shiftP (a : List Nat) (n : Nat) : List Nat := List.replicate n 0 ++ a
/-- ref03.Mul, after k coefficients of a. -/
def mulK (p : Nat) (a b : List Nat) : Nat → List Nat
  | 0 => []
  | k + 1 => addP p (mulK p a b k) (shiftP (scaleP p b (a.getD k 0)) k)
def mulP (p : Nat) (a b : List Nat) : List Nat := mulK p a b a.length
/-- ref03.Eval, after k coefficients. -/
def evS (p : Nat) (a : List Nat) (f : Nat → Nat) : Nat → Nat
  | 0 => 0
  | k + 1 => (evS p a f k + a.getD k 0 * f k % p) % p
def powR (p x : Nat) : Nat → Nat
  | 0 => 1
  | k + 1 => powR p x k * x % p
def evalP (p : Nat) (a : List Nat) (x : Nat) : Nat := evS p a (powR p x) a.length
/-- ref25.Pad. -/
def padP (a : List Nat) (n : Nat) : List Nat := a ++ List.replicate (n - a.length) 0

theorem map_mod_get (p : Nat) (l : List Nat) (i : Nat) : (l.map (· % p)).getD i 0 = l.getD i 0 % p := by
  rw [List.getD_eq_getElem?_getD, List.getD_eq_getElem?_getD, List.getElem?_map]
  cases l[i]? <;> simp
theorem trimP_get (p : Nat) (l : List Nat) (i : Nat) : (trimP p l).getD i 0 = l.getD i 0 % p := by
  rw [trimP, trimZ_get, map_mod_get]
theorem trimP_lt {p : Nat} (hp : 0 < p) {l : List Nat} {x : Nat} (h : x ∈ trimP p l) : x < p := by
  obtain ⟨y, -, rfl⟩ := List.mem_map.1 (trimZ_mem h)
  exact Nat.mod_lt _ hp
theorem trimP_len (p : Nat) (l : List Nat) : (trimP p l).length ≤ l.length := by
  have := trimZ_len (l.map (· % p))
  simpa [trimP] using this
theorem range_get (f : Nat → Nat) (n i : Nat) : ((List.range n).map f).getD i 0 = if i < n then f i else 0 := by
  rw [List.getD_eq_getElem?_getD, List.getElem?_map]
  split
  · rename_i h
    rw [List.getElem?_range h]
    rfl
  · rename_i h
    rw [List.getElem?_eq_none (by simpa using h)]
    rfl
theorem getD_out {l : List Nat} {i : Nat} (h : l.length ≤ i) : l.getD i 0 = 0 := by
  rw [List.getD_eq_getElem?_getD, List.getElem?_eq_none h]
  rfl
theorem addP_get (p : Nat) (a b : List Nat) (i : Nat) : (addP p a b).getD i 0 = (a.getD i 0 + b.getD i 0) % p := by
  rw [addP, trimP_get, range_get]
  split
  · rw [addR, Nat.mod_mod]
  · rename_i h
    rw [getD_out (l := a) (by omega), getD_out (l := b) (by omega)]
theorem addP_len (p : Nat) (a b : List Nat) : (addP p a b).length ≤ max a.length b.length := by
  have := trimP_len p ((List.range (max a.length b.length)).map (addR p a b))
  simpa [addP] using this
theorem map_get0 (f : Nat → Nat) (h : f 0 = 0) (l : List Nat) (i : Nat) : (l.map f).getD i 0 = f (l.getD i 0) := by
  rw [List.getD_eq_getElem?_getD, List.getD_eq_getElem?_getD, List.getElem?_map]
  cases l[i]? <;> simp [h]
theorem scaleP_get (p : Nat) (a : List Nat) (n i : Nat) : (scaleP p a n).getD i 0 = a.getD i 0 * n % p := by
  rw [scaleP, trimP_get, map_get0 (fun x => x * n % p) (by simp), Nat.mod_mod]
theorem scaleP_len (p : Nat) (a : List Nat) (n : Nat) : (scaleP p a n).length ≤ a.length := by
  have := trimP_len p (a.map fun x => x * n % p)
  simpa [scaleP] using this
theorem shiftP_get (a : List Nat) (n i : Nat) : (shiftP a n).getD i 0 = if i < n then 0 else a.getD (i - n) 0 := by
  rw [shiftP, List.getD_eq_getElem?_getD]
  split
  · rename_i h
    rw [List.getElem?_append_left (by simpa using h)]
    simp [h]
  · rename_i h
    rw [List.getElem?_append_right (by simpa using h), List.getD_eq_getElem?_getD, List.length_replicate]
theorem shiftP_len (a : List Nat) (n : Nat) : (shiftP a n).length = n + a.length := by simp [shiftP]
theorem mulK_len (p : Nat) (a b : List Nat) : ∀ k, (mulK p a b (k + 1)).length ≤ k + b.length
  | 0 => by
    have h1 := addP_len p (mulK p a b 0) (shiftP (scaleP p b (a.getD 0 0)) 0)
    have h3 := scaleP_len p b (a.getD 0 0)
    rw [shiftP_len] at h1
    have h0 : (mulK p a b 0).length = 0 := rfl
    rw [h0] at h1
    rw [mulK]
    omega
  | k + 1 => by
    have h1 := addP_len p (mulK p a b (k + 1)) (shiftP (scaleP p b (a.getD (k + 1) 0)) (k + 1))
    have h2 := mulK_len p a b k
    have h3 := scaleP_len p b (a.getD (k + 1) 0)
    rw [shiftP_len] at h1
    rw [mulK]
    omega
theorem mulP_len (p : Nat) (a b : List Nat) : (mulP p a b).length ≤ a.length - 1 + b.length := by
  rw [mulP]
  cases h : a.length with
  | zero => exact Nat.zero_le _
  | succ k => exact mulK_len p a b k
/-- Where the first factor is zero nothing is added (up to the zeros at the end). -/
theorem mulK_get_zero {p : Nat} (a b : List Nat) (k i : Nat) (h : a.getD k 0 = 0) : (mulK p a b (k + 1)).getD i 0 = (mulK p a b k).getD i 0 % p := by
  rw [mulK, addP_get, shiftP_get, scaleP_get, h]
  split <;> simp
theorem mulK_lt {p : Nat} (hp : 0 < p) (a b : List Nat) (k i : Nat) : (mulK p a b k).getD i 0 < p := by
  cases k with
  | zero => simpa [mulK] using hp
  | succ k => rw [mulK, addP_get]; exact Nat.mod_lt _ hp
theorem padP_get (a : List Nat) (n i : Nat) : (padP a n).getD i 0 = a.getD i 0 := by
  rw [padP, List.getD_eq_getElem?_getD, List.getD_eq_getElem?_getD]
  by_cases h : i < a.length
  · rw [List.getElem?_append_left h]
  · rw [List.getElem?_append_right (by omega), List.getElem?_eq_none (l := a) (by omega), List.getElem?_replicate]
    split <;> rfl
theorem padP_len (a : List Nat) (n : Nat) : (padP a n).length = max n a.length := by
  simp [padP]
  omega
/-- Two lists of one length with the same elements. -/
theorem list_ext0 {a b : List Nat} (hl : a.length = b.length) (h : ∀ i, i < a.length → a.getD i 0 = b.getD i 0) : a = b := by
  apply List.ext_getElem hl
  intro i h1 h2
  have := h i h1
  rw [List.getD_eq_getElem?_getD, List.getD_eq_getElem?_getD, List.getElem?_eq_getElem h1, List.getElem?_eq_getElem h2] at this
  exact this
theorem mem_of_getD {l : List Nat} {B : Nat} (h : ∀ i, l.getD i 0 < B) : ∀ x ∈ l, x < B := fun x hx => by
  obtain ⟨i, hi, rfl⟩ := List.getElem_of_mem hx
  have := h i
  rwa [List.getD_eq_getElem?_getD, List.getElem?_eq_getElem hi] at this
end Go.Proofs.Ytefnagiffllhbaa
