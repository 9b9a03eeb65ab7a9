/-
  prover.Valid.
-/
import Derived.Test.YtkaecidnkkcbaaaPrF
namespace Go.Proofs.Ytkaecidnkkcbaaa
open Go.RowKit

set_option maxRecDepth 100000 in
set_option maxHeartbeats 1500000 in
theorem pValid_any (L : LayR) (j : Nat) (P : ProofR) (S : PS) (w : World) (hL : LayOk L) (hn : L.n = 2 ^ j) (hj : j ≤ 10) (h : PrIn w P S) :
    Calls Try.prog 9 #[.agg (layCs L), .agg (prCs P S)] w fun e w' => e = .returned (.bool (prOk L j P)) ∧ Below w.heap.size w w' := by
  have hb0 : Below w.heap.size w ((w.alloc (.cells (layCs L) 44)).alloc (.cells (prCs P S) 35)) := ((Below.refl _ w).alloc (Nat.le_refl _) _).alloc (by simp) _
  have kg : Blk ((w.alloc (.cells (layCs L) 44)).alloc (.cells (prCs P S) 35)) (w.heap.size + 1) 35 (prCs P S) := by
    have := Blk.new (w.alloc (.cells (layCs L) 44)) 35 (prCs P S)
    simpa using this
  have hin := prIn_below h hb0
  obtain ⟨e4, a4, m4, r4⟩ := lists_open h.cols
  obtain ⟨e6, a6, m6, r6⟩ := lists_open h.paths
  by_cases z : S.n4 = L.queries ∧ S.n6 = L.queries
  rotate_left
  · have HZ := Lib.hid (prOk_len (L := L) (j := j) (P := P) (by rw [← e4, ← e6]; exact z))
    have HP := Lib.hid (parts_nil L P S (w.heap.size + 1) _ kg z)
    clear z e4 a4 m4 r4 e6 a6 m6 r6 hin kg h hn hj hL
    unfold layCs prCs at *
    have hnil := fun (w : World) (a : Option Addr) (n c : Nat) => Lib.run_eql_slice_nil (P := Try.prog) w 64 69 a n c 0 0 Try.underlying64
    go_enter Try.func9, Try.ntmps9
    go_wp2_with fail
    refine HP.out.mono ?_
    rintro e w1 ⟨rfl, hb⟩
    go_wp2
    go_ret
    exact ⟨by rw [HZ.out]; rfl, below_chain hb0 hb⟩
  obtain ⟨z4, z6⟩ := z
  have hq := hL.q1
  obtain ⟨b4, q4, hA4⟩ := r4.base (by omega) (by omega)
  obtain ⟨b6, q6, hA6⟩ := r6.base (by omega) (by omega)
  have HP := Lib.hid (parts_any L j P S (w.heap.size + 1) b4 q4 b6 q6 _ hL hn hj kg z4 z6 kg.lt hA4 hA6 ⟨a4, m4⟩ ⟨a6, m6⟩)
  have hps := partsIn_of (L := L) (j := j) kg hin (by rw [← e4]; exact z4) (by rw [← e6]; exact z6) hA4 hA6
  cases hr : decide (bigP ≤ P.root)
  rotate_left
  · have HZ := Lib.hid (prOk_root (L := L) (j := j) (P := P) hr)
    have d1 : decide ((18446744069414584321 : Int) ≤ (P.root : Int)) = true := decide_eq_true (by have := of_decide_eq_true hr; unfold bigP at this; omega)
    have d2 : decide (18446744069414584321 ≤ P.root) = true := hr
    clear hr hps hA4 hA6 z4 z6 e4 a4 m4 r4 e6 a6 m6 r6 hin h hq hL hn hj
    have hpp : 0 < (partsOf L j (w.heap.size + 1) b4 q4 b6 q6).length := by simp [partsOf, parts3]
    generalize partsOf L j (w.heap.size + 1) b4 q4 b6 q6 = ps at *
    unfold layCs prCs at *
    have hnil := fun (w : World) (a : Option Addr) (n c : Nat) => Lib.run_eql_slice_nil (P := Try.prog) w 64 69 a n c 0 0 Try.underlying64
    go_enter Try.func9, Try.ntmps9
    go_wp2_with fail
    refine HP.out.mono ?_
    rintro e w1 ⟨v, n, rfl, hown, hb⟩
    have kg1 := kg.below hb kg.lt
    have cg := kg1.cell
    clear kg
    have hnn : 0 < n := by have := hown.1; rw [pcs_len] at this; omega
    obtain ⟨r, cr, rfl, hr1, hr2⟩ := own_nonnil hown hnn
    go_wp2
    go_ret
    exact ⟨by rw [HZ.out]; rfl, below_chain hb0 hb⟩
  have HZ := Lib.hid (prOk_parts L j (w.heap.size + 1) b4 q4 b6 q6 P (by rw [← e4]; exact z4) (by rw [← e6]; exact z6) hr)
  have d1 : decide ((18446744069414584321 : Int) ≤ (P.root : Int)) = false := decide_eq_false (by have := of_decide_eq_false hr; unfold bigP at this; omega)
  have d2 : decide (18446744069414584321 ≤ P.root) = false := hr
  have hpp : 0 < (partsOf L j (w.heap.size + 1) b4 q4 b6 q6).length := by simp [partsOf, parts3]
  have hpb : (partsOf L j (w.heap.size + 1) b4 q4 b6 q6).length ≤ 200 := by have := hL.q2; simp [partsOf, parts3, partsC]; omega
  rw [HZ.out]
  clear HZ hr hA4 hA6 z4 z6 e4 a4 m4 r4 e6 a6 m6 r6 hin h hq hL hn hj
  generalize partsOf L j (w.heap.size + 1) b4 q4 b6 q6 = ps at *
  generalize contents P = ls at *
  unfold layCs prCs at *
  have hnil := fun (w : World) (a : Option Addr) (n c : Nat) => Lib.run_eql_slice_nil (P := Try.prog) w 64 69 a n c 0 0 Try.underlying64
  go_enter Try.func9, Try.ntmps9
  go_wp2_with fail
  refine HP.out.mono ?_
  rintro e w1 ⟨v, n, rfl, hown, hb⟩
  have kg1 := kg.below hb kg.lt
  have cg := kg1.cell
  have hps1 : PartsIn w1 ps ls := ⟨hps.1, fun i h1 h2 => partAt_below (hps.2 i h1 h2) hb⟩
  replace hb0 := below_chain hb0 hb
  clear kg kg1 hps HP hb
  have hnn : n = ps.length := by have := hown.1; rw [pcs_len] at this; omega
  obtain ⟨r, cr, rfl, hr1, hr2⟩ := own_nonnil hown (by omega)
  have hrow : ∀ i u, (pcs ps)[i]? = some u → w1.cell? ⟨r, i, none⟩ = some u := fun i u hu => by
    obtain ⟨ad, e, hc⟩ := (Rd.of_own hown).2 (by omega)
    injection e with e
    subst e
    have := hc i u hu
    simpa [add_none] using this
  have HROW := Lib.hid hrow
  clear hrow hown
  subst hnn
  have HPS := Lib.hid hps1
  clear hps1
  have gm : (ps.length : Int) ≤ 200 := by omega
  go_wp2_with fail
  go_loopw [19] (fun i wr => ∃ k : Nat, k ≤ ps.length ∧ i = .int .i64 (k : Int) ∧ Below w1.heap.size w1 wr ∧ Hid (∀ i (h1 : i < ps.length) (h2 : i < ls.length), i < k → partGood ps[i] ls[i] = true)) (fun i _ => ps.length - (intOf i).toNat)
  case atStart => exact ⟨0, Nat.zero_le _, rfl, Below.refl _ _, fun i h1 h2 h3 => by omega⟩
  case round =>
    clear cg
    obtain ⟨k, hk, rfl, hbr, HG⟩ := hrel
    by_cases hlt : k < ps.length
    · have hlt2 : k < ls.length := by rw [← HPS.out.1]; exact hlt
      obtain ⟨b, o, A, nn, cc, eptr, hc, hrw⟩ := partAt_below (HPS.out.2 k hlt hlt2) hbr
      obtain ⟨u0, u1, u2⟩ := pcs_get ps k hlt
      have c0 := later_cell hbr (HROW.out _ _ u0)
      have c1 := later_cell hbr (HROW.out _ _ u1)
      have c2 := later_cell hbr (HROW.out _ _ u2)
      rw [eptr] at c0
      clear u0 u1 u2
      have HGood : Hid (partGood ps[k] ls[k] = (((ls[k].length : Int) == (ps[k].size : Int)) && ls[k].all (fun n => decide (n < ps[k].lim)))) := rfl
      have HB := Lib.hid (fun w (h : RWd w [.slice A nn cc] ls[k]) => below_any A nn cc ls[k] ps[k].lim w h)
      have HL1 := Lib.hid hlt
      have HL2 := Lib.hid hlt2
      obtain ⟨enn, hcc1, hcc2, -, -⟩ := word_at hrw
      have gnn := max_int hcc1 hcc2
      have ENN := Lib.hid enn
      clear enn hcc1 hcc2 eptr
      have HFAIL := Lib.hid (fun (hh : partGood ps[k] ls[k] = false) => allGood_false hlt hlt2 hh)
      have HSTEP := Lib.hid (fun (hh : partGood ps[k] ls[k] = true) => (fun i (h1 : i < ps.length) (h2 : i < ls.length) (h3 : i < k + 1) => (by
        rcases Nat.lt_or_ge i k with h5 | h5
        · exact HG.out i h1 h2 h5
        · have e : i = k := by omega
          subst e
          exact hh : partGood ps[i] ls[i] = true)))
      revert c1 c2 HGood HB
      generalize ps[k].size = size
      generalize ps[k].lim = lim
      generalize hall : ls[k].all (fun n => decide (n < lim)) = bb
      intro c1 c2 HGood HB
      clear hall
      have lb : b < wr.heap.size := World.block_lt_of_cell? _ _ hc
      have lr : r < wr.heap.size := World.block_lt_of_cell? _ _ c0
      have g1 : (0 : Int) ≤ (k : Int) := by omega
      have g2 : (k : Int) < (ps.length : Int) := by omega
      have hal := (Below.refl wr.heap.size wr).alloc (Nat.le_refl _) (.cells #[.pointer (some ⟨b, o, none⟩), .int .i64 (size : Int), .int .u64 (lim : Int)] 69)
      have kx := Blk.new wr 69 #[.pointer (some ⟨b, o, none⟩), .int .i64 (size : Int), .int .u64 (lim : Int)]
      by_cases zs : nn = size
      rotate_left
      · have y1 : ((nn : Int) != (size : Int)) = true := by rw [bne_iff_ne]; omega
        have HF := Lib.hid (HFAIL.out (HGood.out.trans (by rw [← ENN.out, show ((nn : Int) == (size : Int)) = false by rw [beq_eq_false_iff_ne]; omega]; rfl)))
        clear zs
        go_wp2_with fail
        replace hrw := kept_RWd _ _ _ _ hal hrw
        replace hc := later_cell hal hc
        replace hbr := below_chain hbr hal
        replace lb : b < (wr.alloc (.cells #[.pointer (some ⟨b, o, none⟩), .int .i64 (size : Int), .int .u64 (lim : Int)] 69)).heap.size := World.block_lt_of_cell? _ _ hc
        clear c0 c1 c2 lr hal
        revert kx hrw hc hbr lb
        generalize wr.alloc _ = w7
        generalize wr.heap.size = gx
        intro kx hrw hc hbr lb
        have cx := kx.cell
        have lx := kx.lt
        refine wpO_begin (Later) [15] [0, 1, 2, 3, 4, 5, 6, 7, 8, 9, 10, 11, 12, 13, 14, 15, 16, 17] (by kernel_rfl) (by kernel_rfl) ?_
        refine wpO_start (later_moves) ?_
        intro Wc hacc
        repeat (first | (refine wpO_skip (later_moves) rfl rfl (fun _ _ _ h => h) ?_ ; simp only [Act.put, List.setIfInBounds_toArray, List.set_cons_zero, List.set_cons_succ]) | (refine wpO_light (v := ?_) (later_moves) rfl rfl (fun _ _ _ h => h) ?_ ?_ ; rotate_left ; (· (intro w' hR ; (first | have hcells := later_cellsD ((later_moves).trans _ _ _ hacc hR) | skip) ; go_simp ; try with_reducible rfl)) ; simp only [Act.put, List.setIfInBounds_toArray, List.set_cons_zero, List.set_cons_succ]))
        refine wpO_done ?_
        go_wp2
        go_ret
        exact ⟨by rw [HF.out]; rfl, below_chain (below_chain hb0 hbr.drew) hacc⟩
      have y1 : ((nn : Int) != (size : Int)) = false := by rw [bne_eq_false_iff_eq]; omega
      have HGG := Lib.hid (show partGood ps[k] ls[k] = bb from HGood.out.trans (by rw [← ENN.out, show ((nn : Int) == (size : Int)) = true by rw [beq_iff_eq]; omega]; rfl))
      clear zs HGood
      go_wp2_with fail
      replace hrw := kept_RWd _ _ _ _ hal hrw
      replace hc := later_cell hal hc
      replace hbr := below_chain hbr hal
      replace lb : b < (wr.alloc (.cells #[.pointer (some ⟨b, o, none⟩), .int .i64 (size : Int), .int .u64 (lim : Int)] 69)).heap.size := World.block_lt_of_cell? _ _ hc
      clear c0 c1 c2 lr hal
      revert kx hrw hc hbr lb
      generalize wr.alloc _ = w7
      generalize wr.heap.size = gx
      intro kx hrw hc hbr lb
      have cx := kx.cell
      have lx := kx.lt
      refine wpO_begin (Later) [15] [0, 1, 2, 3, 4, 5, 6, 7, 8, 9, 10, 11, 12, 13, 14, 15, 16, 17] (by kernel_rfl) (by kernel_rfl) ?_
      refine wpO_start (later_moves) ?_
      intro Wc hacc
      repeat (first | (refine wpO_skip (later_moves) rfl rfl (fun _ _ _ h => h) ?_ ; simp only [Act.put, List.setIfInBounds_toArray, List.set_cons_zero, List.set_cons_succ]) | (refine wpO_light (v := ?_) (later_moves) rfl rfl (fun _ _ _ h => h) ?_ ?_ ; rotate_left ; (· (intro w' hR ; (first | have hcells := later_cellsD ((later_moves).trans _ _ _ hacc hR) | skip) ; go_simp ; try with_reducible rfl)) ; simp only [Act.put, List.setIfInBounds_toArray, List.set_cons_zero, List.set_cons_succ]))
      refine wpO_call (later_moves) rfl rfl rfl (fun _ => by go_simp <;> rfl) ((HB.out _ (kept_RWd _ _ _ _ hacc hrw)).mono ?_)
      rintro e w8 ⟨rfl, rfl⟩
      refine ⟨_, rfl, later_moves.refl _, ?_⟩
      replace hacc := (later_moves).trans _ _ _ hacc (later_moves.refl _)
      simp only [Act.put, List.setIfInBounds_toArray, List.set_cons_zero, List.set_cons_succ]
      cases bb
      · have HF := Lib.hid (HFAIL.out HGG.out)
        repeat (first | (refine wpO_skip (later_moves) rfl rfl (fun _ _ _ h => h) ?_ ; simp only [Act.put, List.setIfInBounds_toArray, List.set_cons_zero, List.set_cons_succ]) | (refine wpO_light (v := ?_) (later_moves) rfl rfl (fun _ _ _ h => h) ?_ ?_ ; rotate_left ; (· (intro w' hR ; (first | have hcells := later_cellsD ((later_moves).trans _ _ _ hacc hR) | skip) ; go_simp ; try with_reducible rfl)) ; simp only [Act.put, List.setIfInBounds_toArray, List.set_cons_zero, List.set_cons_succ]))
        refine wpO_done ?_
        go_wp2
        go_ret
        exact ⟨by rw [HF.out]; rfl, below_chain (below_chain hb0 hbr.drew) hacc⟩
      · repeat (first | (refine wpO_skip (later_moves) rfl rfl (fun _ _ _ h => h) ?_ ; simp only [Act.put, List.setIfInBounds_toArray, List.set_cons_zero, List.set_cons_succ]) | (refine wpO_light (v := ?_) (later_moves) rfl rfl (fun _ _ _ h => h) ?_ ?_ ; rotate_left ; (· (intro w' hR ; (first | have hcells := later_cellsD ((later_moves).trans _ _ _ hacc hR) | skip) ; go_simp ; try with_reducible rfl)) ; simp only [Act.put, List.setIfInBounds_toArray, List.set_cons_zero, List.set_cons_succ]))
        refine wpO_done ?_
        go_wp2
        go_roundw
        case rel => exact ⟨k + 1, by omega, by go_num, below_chain hbr.drew hacc, HSTEP.out HGG.out⟩
        case measure => simp [intOf]; omega
    · have HT := Lib.hid (allGood_true HPS.out.1 fun i h1 h2 => HG.out i h1 h2 (by omega))
      go_wp2
      go_ret
      exact ⟨by rw [HT.out]; rfl, below_chain hb0 hbr⟩
end Go.Proofs.Ytkaecidnkkcbaaa

