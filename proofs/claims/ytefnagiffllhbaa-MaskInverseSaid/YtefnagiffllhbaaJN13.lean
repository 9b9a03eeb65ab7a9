/-
  mask.squeeze, mask.codeSize; ref25.squeeze.
-/
import Derived.Test.YtefnagiffllhbaaJN12
import Derived.Test.YtefnagiffllhbaaJN7

/- RSpoA -/
namespace Go.Proofs.Ytefnagiffllhbaa
open Go.RowKit

set_option maxRecDepth 100000 in
set_option maxHeartbeats 2000000 in
theorem rAbsorb_any (p label : Nat) (A : Option Addr) (n c : Nat) (l : List Nat) (w : World) (hp : okP p = true) (hl : RWd w [.slice A n c] l) (hne : 0 < l.length) (hlen : l.length ≤ 1000000) :
    Calls Try.prog 99 #[.int .u64 p, .int .u64 label, .slice A n c] w fun e w' => e = .returned (absorbP p label l).val ∧ Below w.heap.size w w' := by
  obtain ⟨rfl, h1, h2, hlt, hrd⟩ := lw_at hl
  have gm := lw_max h1 h2
  have HMu := Lib.hid (fun w => rMul_any p label 65536 w hp)
  have HA0 := Lib.hid (fun w => rAdd_any p (label * 65536 % p) l.length w hp)
  have HA := Lib.hid (fun a b w => rAdd_any p a b w hp)
  have HP := Lib.hid (fun s w => rPermute_any p s w hp)
  have HF := Lib.hid (show absorbP p label l = absP p (l.drop 0) ⟨0, 0, (label * 65536 % p + l.length) % p⟩ from rfl)
  have ew : IntKind.u64.wrap (l.length : Int) = (l.length : Int) := wr_nat _ (by omega)
  generalize absorbP p label l = fin at *
  generalize (label * 65536 % p + l.length) % p = c0 at *
  generalize label * 65536 % p = m0 at *
  clear hl h1 h2 hp
  have hb0 : Below w.heap.size w (w.alloc (.cells #[.int .u64 0, .int .u64 0, .int .u64 0] 120)) := (Below.refl _ _).alloc (Nat.le_refl _) _
  have kr := Blk.new w 120 #[.int .u64 0, .int .u64 0, .int .u64 0]
  go_enter Try.func99, Try.ntmps99
  go_wp2_with fail
  generalize w.alloc _ = w0 at kr hb0 ⊢
  refine (HMu.out _).mono ?_
  rintro e w1 ⟨rfl, hb1⟩
  replace kr := kr.below hb1 kr.lt
  replace hb0 := below_chain hb0 hb1
  go_wp2_with fail
  refine (HA0.out _).mono ?_
  rintro e w2 ⟨rfl, hb2⟩
  replace kr := kr.below hb2 kr.lt
  replace hb0 := below_chain hb0 hb2
  have hsw : w.heap.size < w2.heap.size := kr.lt
  have hal := (Below.refl w2.heap.size w2).alloc (Nat.le_refl _) (.cells #[.int .u64 0, .int .u64 0, .int .u64 (c0 : Int)] 120)
  have ks : Blk _ w2.heap.size 120 (St.mk 0 0 c0).cs := Blk.new w2 120 #[.int .u64 0, .int .u64 0, .int .u64 (c0 : Int)]
  replace kr := kr.below hal kr.lt
  replace hb0 := below_chain hb0 hal
  clear hb1 hb2 hal
  go_upto_block 0 with fail
  generalize w2.alloc _ = w4 at kr ks hb0 ⊢
  generalize w2.heap.size = g at ks hsw ⊢
  go_wp2_with fail
  go_loopw [8] (fun y wr => ∃ (i : Nat) (q : St), i ≤ l.length + 1 ∧ y = .int .i64 (i : Int) ∧ Blk wr w.heap.size 120 #[.int .u64 0, .int .u64 0, .int .u64 0] ∧ Blk wr g 120 q.cs ∧ Below w.heap.size w wr ∧ Hid (absP p (l.drop i) q = fin)) (fun y _ => l.length - (intOf y).toNat)
  case atStart => exact ⟨0, ⟨0, 0, c0⟩, by omega, rfl, kr, ks, hb0, HF.out.symm⟩
  case round =>
    clear kr ks hb0
    obtain ⟨i, q, hi, rfl, kr, ks, hb0, HI⟩ := hrel
    obtain ⟨qa, qb, qc⟩ := q
    have ks2 : Blk wr g 120 #[.int .u64 (qa : Int), .int .u64 (qb : Int), .int .u64 (qc : Int)] := ks
    replace ks := ks2
    clear ks2
    by_cases hi1 : i < l.length
    · have hx := lw_getD hlt hi1
      obtain ⟨bb, bq, eA, hbl, cl⟩ := lw_get (hrd.below hb0) hi1
      have HLT := Lib.hid hlt
      have HRD := Lib.hid hrd
      have HI1 := Lib.hid hi1
      have g1 : (0 : Int) ≤ (i : Int) := by omega
      have g2 : (i : Int) < (l.length : Int) := by omega
      have hdi : ((i : Int) == 0) = true ∨ ((i : Int) == 0) = false := by cases ((i : Int) == 0) <;> simp
      rcases hdi with di | di
      · by_cases hi2 : i + 1 < l.length
        · obtain ⟨bb2, bq2, eA2, hbl2, cl2⟩ := lw_get (hrd.below hb0) hi2
          have HD := Lib.hid (drop_two hi2)
          obtain ⟨i1, hi1e⟩ : ∃ i1, i1 = i + 1 := ⟨_, rfl⟩
          have e1 : (i : Int) + 1 = (i1 : Int) := by omega
          have e2 : IntKind.i64.wrap ((i : Int) + 1) = (i1 : Int) := by rw [IntKind.wrap_i64]; omega
          have e3 : IntKind.i64.wrap (i1 : Int) = (i1 : Int) := by rw [IntKind.wrap_i64]; omega
          have g4 : (0 : Int) ≤ (i1 : Int) := by omega
          have g3 : (i1 : Int) < (l.length : Int) := by omega
          have HI2 := Lib.hid (show i1 < l.length by omega)
          have HI1E := Lib.hid hi1e
          rw [eA] at eA2
          have eA3 := Option.some.inj eA2
          injection eA3 with e5 e6
          subst e5 e6
          subst eA
          clear eA2 hbl2
          have HIF := Lib.hid (show absP p (l.getD i 0 :: l.getD (i + 1) 0 :: l.drop (i + 2)) ⟨qa, qb, qc⟩ = fin by rw [← HD.out]; exact HI.out)
          clear HD hlt hrd hi2 hx hi1e
          obtain ⟨y, hy⟩ : ∃ y, y = l.getD (i + 1) 0 := ⟨_, rfl⟩
          generalize l.getD i 0 = x at *
          rw [← hy] at HIF cl2
          have HY := Lib.hid hy.symm
          clear hy
          have HA1 := Lib.hid (fun w => HA.out qa x w)
          have HA2 := Lib.hid (fun w => HA.out qb y w)
          obtain ⟨na, hna⟩ : ∃ na, na = (qa + x) % p := ⟨_, rfl⟩
          obtain ⟨nb, hnb⟩ : ∃ nb, nb = (qb + y) % p := ⟨_, rfl⟩
          rw [← hna] at HA1
          rw [← hnb] at HA2
          obtain ⟨z, hz⟩ : ∃ z, z = permP p ⟨na, nb, qc⟩ := ⟨_, rfl⟩
          have HX := Lib.hid (show ∀ w, Calls Try.prog 100 #[.int .u64 p, .agg #[.int .u64 (na : Int), .int .u64 (nb : Int), .int .u64 (qc : Int)]] w fun e w' => e = .returned (.agg #[.int .u64 (z.a : Int), .int .u64 (z.b : Int), .int .u64 (z.c : Int)]) ∧ Below w.heap.size w w' from fun w => by rw [hz]; exact HP.out ⟨na, nb, qc⟩ w)
          have HZ := Lib.hid (show absP p (l.drop (i + 2)) z = fin by rw [hz]; rw [hna, hnb]; exact HIF.out)
          clear hz
          clear HIF hna hnb
          have cs := ks.cell
          have ls := ks.lt
          have cl2H := Lib.hid cl2
          clear cl2
          go_wp2_with fail
          refine wpGO_begin (Later) (later_moves) [9] [9] [0, 1, 2, 3, 4, 5, 6, 7, 8, 9] (by kernel_rfl) (by kernel_rfl) ?_
          refine wpGO_start (later_moves) ?_
          intro Wc hacc
          repeat (first | (refine wpGO_skip (later_moves) rfl rfl rfl rfl (fun _ _ _ h => h) ?_ ; simp only [Act.put, List.setIfInBounds_toArray, List.set_cons_zero, List.set_cons_succ]) | (refine wpGO_light (v := ?_) (later_moves) rfl rfl rfl rfl (fun _ _ _ h => h) ?_ ?_ ; rotate_left ; (· (intro w' hR ; (first | have hcells := later_cellsD ((later_moves).trans _ _ _ hacc hR) | skip) ; go_simp ; try with_reducible rfl)) ; simp only [Act.put, List.setIfInBounds_toArray, List.set_cons_zero, List.set_cons_succ]) | (refine wpGO_free (v := ?_) rfl rfl rfl rfl (fun _ _ _ h => h) ?_ ?_ ; rotate_left ; (· (intro w' ; go_simp ; try with_reducible rfl)) ; simp only [Act.put, List.setIfInBounds_toArray, List.set_cons_zero, List.set_cons_succ]))
          refine wpGO_call (later_moves) rfl rfl rfl rfl (fun _ _ _ h => h) (fun _ => by go_simp <;> rfl) (fun w' hR => HA1.out _) ?_
          simp only [Act.put, List.setIfInBounds_toArray, List.set_cons_zero, List.set_cons_succ]
          repeat (first | (refine wpGO_skip (later_moves) rfl rfl rfl rfl (fun _ _ _ h => h) ?_ ; simp only [Act.put, List.setIfInBounds_toArray, List.set_cons_zero, List.set_cons_succ]) | (refine wpGO_light (v := ?_) (later_moves) rfl rfl rfl rfl (fun _ _ _ h => h) ?_ ?_ ; rotate_left ; (· (intro w' hR ; (first | have hcells := later_cellsD ((later_moves).trans _ _ _ hacc hR) | skip) ; go_simp ; try with_reducible rfl)) ; simp only [Act.put, List.setIfInBounds_toArray, List.set_cons_zero, List.set_cons_succ]) | (refine wpGO_free (v := ?_) rfl rfl rfl rfl (fun _ _ _ h => h) ?_ ?_ ; rotate_left ; (· (intro w' ; go_simp ; try with_reducible rfl)) ; simp only [Act.put, List.setIfInBounds_toArray, List.set_cons_zero, List.set_cons_succ]))
          refine wpGO_heavy rfl rfl rfl rfl ?_
          intro wh hRh
          replace hacc := (later_moves).trans _ _ _ hacc hRh
          replace kr := kr.drew.below hacc kr.lt
          replace ks := ks.drew.below hacc ks.lt
          replace hb0 := below_chain hb0.drew hacc
          clear cs ls hacc hRh cl
          have c2 := ks.cell
          have f2 := ks.frozen
          go_simp
          refine ⟨fun h => Bool.noConfusion h, ?_⟩
          have hg : wh.grownBy (wh.setCell ⟨g, 0, none⟩ (.int .u64 (na : Int))) (some g) := grown_setCell' (p := ⟨g, 0, none⟩) (grown_refl' wh _) (.inl rfl) _
          replace ks := ks.set_ 0 (.int .u64 (na : Int))
          simp at ks
          replace kr := kr.grown hg (fun e => by have := Option.some.inj e; omega)
          replace hb0 := hb0.trans (below_of_only hg hb0.size (by omega))
          clear hg c2 f2
          generalize wh.setCell _ _ = Wf0 at ks kr hb0 ⊢
          refine wpGO_doneP rfl ?_
          have cl2 : Wf0.cell? ⟨bb, bq + i1, none⟩ = some (.int .u64 (y : Int)) := by obtain ⟨b3, q3, e3, -, h3⟩ := lw_get (HRD.out.below hb0) HI2.out; have e4 := Option.some.inj e3; injection e4 with e5 e6; subst e5 e6; rw [h3, HI1E.out, HY.out]
          have hbl2 : bb < Wf0.heap.size := World.block_lt_of_cell? _ _ cl2
          have cs := ks.cell
          have ls := ks.lt
          go_wp2_with fail
          refine wpGO_begin (Later) (later_moves) [10] [10] [0, 1, 2, 3, 4, 5, 6, 7, 8, 9, 10] (by kernel_rfl) (by kernel_rfl) ?_
          refine wpGO_start (later_moves) ?_
          intro Wc hacc
          repeat (first | (refine wpGO_skip (later_moves) rfl rfl rfl rfl (fun _ _ _ h => h) ?_ ; simp only [Act.put, List.setIfInBounds_toArray, List.set_cons_zero, List.set_cons_succ]) | (refine wpGO_light (v := ?_) (later_moves) rfl rfl rfl rfl (fun _ _ _ h => h) ?_ ?_ ; rotate_left ; (· (intro w' hR ; (first | have hcells := later_cellsD ((later_moves).trans _ _ _ hacc hR) | skip) ; go_simp ; try with_reducible rfl)) ; simp only [Act.put, List.setIfInBounds_toArray, List.set_cons_zero, List.set_cons_succ]) | (refine wpGO_free (v := ?_) rfl rfl rfl rfl (fun _ _ _ h => h) ?_ ?_ ; rotate_left ; (· (intro w' ; go_simp ; try with_reducible rfl)) ; simp only [Act.put, List.setIfInBounds_toArray, List.set_cons_zero, List.set_cons_succ]))
          refine wpGO_call (later_moves) rfl rfl rfl rfl (fun _ _ _ h => h) (fun _ => by go_simp <;> rfl) (fun w' hR => HA2.out _) ?_
          simp only [Act.put, List.setIfInBounds_toArray, List.set_cons_zero, List.set_cons_succ]
          repeat (first | (refine wpGO_skip (later_moves) rfl rfl rfl rfl (fun _ _ _ h => h) ?_ ; simp only [Act.put, List.setIfInBounds_toArray, List.set_cons_zero, List.set_cons_succ]) | (refine wpGO_light (v := ?_) (later_moves) rfl rfl rfl rfl (fun _ _ _ h => h) ?_ ?_ ; rotate_left ; (· (intro w' hR ; (first | have hcells := later_cellsD ((later_moves).trans _ _ _ hacc hR) | skip) ; go_simp ; try with_reducible rfl)) ; simp only [Act.put, List.setIfInBounds_toArray, List.set_cons_zero, List.set_cons_succ]) | (refine wpGO_free (v := ?_) rfl rfl rfl rfl (fun _ _ _ h => h) ?_ ?_ ; rotate_left ; (· (intro w' ; go_simp ; try with_reducible rfl)) ; simp only [Act.put, List.setIfInBounds_toArray, List.set_cons_zero, List.set_cons_succ]))
          refine wpGO_heavy rfl rfl rfl rfl ?_
          intro wh hRh
          replace hacc := (later_moves).trans _ _ _ hacc hRh
          replace kr := kr.drew.below hacc kr.lt
          replace ks := ks.drew.below hacc ks.lt
          replace hb0 := below_chain hb0.drew hacc
          clear cs ls hacc hRh cl2
          have c2 := ks.cell
          have f2 := ks.frozen
          go_simp
          refine ⟨fun h => Bool.noConfusion h, ?_⟩
          have hg : wh.grownBy (wh.setCell ⟨g, 1, none⟩ (.int .u64 (nb : Int))) (some g) := grown_setCell' (p := ⟨g, 1, none⟩) (grown_refl' wh _) (.inl rfl) _
          replace ks := ks.set_ 1 (.int .u64 (nb : Int))
          simp at ks
          replace kr := kr.grown hg (fun e => by have := Option.some.inj e; omega)
          replace hb0 := hb0.trans (below_of_only hg hb0.size (by omega))
          clear hg c2 f2
          generalize wh.setCell _ _ = Wf1 at ks kr hb0 ⊢
          refine wpGO_doneP rfl ?_
          have cs := ks.cell
          go_wp2_with fail
          refine (HX.out _).mono ?_
          rintro e w5 ⟨rfl, hb5⟩
          replace kr := kr.below hb5 kr.lt
          replace ks := ks.below hb5 ks.lt
          replace hb0 := below_chain hb0 hb5
          clear cs hb5
          have cs := ks.cell
          have fs := ks.frozen
          go_wp2_with fail
          have hg := set3_grown (w := w5) (g := g) (.int .u64 (z.a : Int)) (.int .u64 (z.b : Int)) (.int .u64 (z.c : Int))
          have kz := set3_blk ks (.int .u64 (z.a : Int)) (.int .u64 (z.b : Int)) (.int .u64 (z.c : Int))
          replace kr := kr.grown hg (fun e => by have := Option.some.inj e; omega)
          replace hb0 := hb0.trans (below_of_only hg hb0.size (by omega))
          clear hg cs fs ks
          generalize ((World.setCell w5 _ _).setCell _ _).setCell _ _ = Wz at kz kr hb0 ⊢
          go_roundw
          case rel => exact ⟨i + 2, z, by omega, by go_num, kr, kz, hb0, HZ.out⟩
          case measure => simp [intOf]; omega
        · have hi3 : i + 1 = l.length := by omega
          have HD := Lib.hid (drop_one hi3)
          have g3 : ¬ ((i : Int) + 1 < (l.length : Int)) := by omega
          subst eA
          have HIF := Lib.hid (show absP p [l.getD i 0] ⟨qa, qb, qc⟩ = fin by rw [← HD.out]; exact HI.out)
          have HDN := Lib.hid (show l.drop (i + 2) = [] from List.drop_of_length_le (by omega))
          clear HD hlt hrd hx
          generalize l.getD i 0 = x at *
          have HA1 := Lib.hid (fun w => HA.out qa x w)
          obtain ⟨na, hna⟩ : ∃ na, na = (qa + x) % p := ⟨_, rfl⟩
          rw [← hna] at HA1
          obtain ⟨z, hz⟩ : ∃ z, z = permP p ⟨na, qb, qc⟩ := ⟨_, rfl⟩
          have HX := Lib.hid (show ∀ w, Calls Try.prog 100 #[.int .u64 p, .agg #[.int .u64 (na : Int), .int .u64 (qb : Int), .int .u64 (qc : Int)]] w fun e w' => e = .returned (.agg #[.int .u64 (z.a : Int), .int .u64 (z.b : Int), .int .u64 (z.c : Int)]) ∧ Below w.heap.size w w' from fun w => by rw [hz]; exact HP.out ⟨na, qb, qc⟩ w)
          have HZ := Lib.hid (show absP p (l.drop (i + 2)) z = fin by rw [hz]; rw [HDN.out, hna]; exact HIF.out)
          clear hz
          clear HIF HDN hi2 hi3 hna
          have cs := ks.cell
          have ls := ks.lt
          go_wp2_with fail
          refine wpGO_begin (Later) (later_moves) [9] [9] [0, 1, 2, 3, 4, 5, 6, 7, 8, 9] (by kernel_rfl) (by kernel_rfl) ?_
          refine wpGO_start (later_moves) ?_
          intro Wc hacc
          repeat (first | (refine wpGO_skip (later_moves) rfl rfl rfl rfl (fun _ _ _ h => h) ?_ ; simp only [Act.put, List.setIfInBounds_toArray, List.set_cons_zero, List.set_cons_succ]) | (refine wpGO_light (v := ?_) (later_moves) rfl rfl rfl rfl (fun _ _ _ h => h) ?_ ?_ ; rotate_left ; (· (intro w' hR ; (first | have hcells := later_cellsD ((later_moves).trans _ _ _ hacc hR) | skip) ; go_simp ; try with_reducible rfl)) ; simp only [Act.put, List.setIfInBounds_toArray, List.set_cons_zero, List.set_cons_succ]) | (refine wpGO_free (v := ?_) rfl rfl rfl rfl (fun _ _ _ h => h) ?_ ?_ ; rotate_left ; (· (intro w' ; go_simp ; try with_reducible rfl)) ; simp only [Act.put, List.setIfInBounds_toArray, List.set_cons_zero, List.set_cons_succ]))
          refine wpGO_call (later_moves) rfl rfl rfl rfl (fun _ _ _ h => h) (fun _ => by go_simp <;> rfl) (fun w' hR => HA1.out _) ?_
          simp only [Act.put, List.setIfInBounds_toArray, List.set_cons_zero, List.set_cons_succ]
          repeat (first | (refine wpGO_skip (later_moves) rfl rfl rfl rfl (fun _ _ _ h => h) ?_ ; simp only [Act.put, List.setIfInBounds_toArray, List.set_cons_zero, List.set_cons_succ]) | (refine wpGO_light (v := ?_) (later_moves) rfl rfl rfl rfl (fun _ _ _ h => h) ?_ ?_ ; rotate_left ; (· (intro w' hR ; (first | have hcells := later_cellsD ((later_moves).trans _ _ _ hacc hR) | skip) ; go_simp ; try with_reducible rfl)) ; simp only [Act.put, List.setIfInBounds_toArray, List.set_cons_zero, List.set_cons_succ]) | (refine wpGO_free (v := ?_) rfl rfl rfl rfl (fun _ _ _ h => h) ?_ ?_ ; rotate_left ; (· (intro w' ; go_simp ; try with_reducible rfl)) ; simp only [Act.put, List.setIfInBounds_toArray, List.set_cons_zero, List.set_cons_succ]))
          refine wpGO_heavy rfl rfl rfl rfl ?_
          intro wh hRh
          replace hacc := (later_moves).trans _ _ _ hacc hRh
          replace kr := kr.drew.below hacc kr.lt
          replace ks := ks.drew.below hacc ks.lt
          replace hb0 := below_chain hb0.drew hacc
          clear cs ls hacc hRh cl
          have c2 := ks.cell
          have f2 := ks.frozen
          go_simp
          refine ⟨fun h => Bool.noConfusion h, ?_⟩
          have hg : wh.grownBy (wh.setCell ⟨g, 0, none⟩ (.int .u64 (na : Int))) (some g) := grown_setCell' (p := ⟨g, 0, none⟩) (grown_refl' wh _) (.inl rfl) _
          replace ks := ks.set_ 0 (.int .u64 (na : Int))
          simp at ks
          replace kr := kr.grown hg (fun e => by have := Option.some.inj e; omega)
          replace hb0 := hb0.trans (below_of_only hg hb0.size (by omega))
          clear hg c2 f2
          generalize wh.setCell _ _ = Wf0 at ks kr hb0 ⊢
          refine wpGO_doneP rfl ?_
          have cs := ks.cell
          go_wp2_with fail
          refine (HX.out _).mono ?_
          rintro e w5 ⟨rfl, hb5⟩
          replace kr := kr.below hb5 kr.lt
          replace ks := ks.below hb5 ks.lt
          replace hb0 := below_chain hb0 hb5
          clear cs hb5
          have cs := ks.cell
          have fs := ks.frozen
          go_wp2_with fail
          have hg := set3_grown (w := w5) (g := g) (.int .u64 (z.a : Int)) (.int .u64 (z.b : Int)) (.int .u64 (z.c : Int))
          have kz := set3_blk ks (.int .u64 (z.a : Int)) (.int .u64 (z.b : Int)) (.int .u64 (z.c : Int))
          replace kr := kr.grown hg (fun e => by have := Option.some.inj e; omega)
          replace hb0 := hb0.trans (below_of_only hg hb0.size (by omega))
          clear hg cs fs ks
          generalize ((World.setCell w5 _ _).setCell _ _).setCell _ _ = Wz at kz kr hb0 ⊢
          go_roundw
          case rel => exact ⟨i + 2, z, by omega, by go_num, kr, kz, hb0, HZ.out⟩
          case measure => simp [intOf]; omega
      · by_cases hi2 : i + 1 < l.length
        · obtain ⟨bb2, bq2, eA2, hbl2, cl2⟩ := lw_get (hrd.below hb0) hi2
          have HD := Lib.hid (drop_two hi2)
          obtain ⟨i1, hi1e⟩ : ∃ i1, i1 = i + 1 := ⟨_, rfl⟩
          have e1 : (i : Int) + 1 = (i1 : Int) := by omega
          have e2 : IntKind.i64.wrap ((i : Int) + 1) = (i1 : Int) := by rw [IntKind.wrap_i64]; omega
          have e3 : IntKind.i64.wrap (i1 : Int) = (i1 : Int) := by rw [IntKind.wrap_i64]; omega
          have g4 : (0 : Int) ≤ (i1 : Int) := by omega
          have g3 : (i1 : Int) < (l.length : Int) := by omega
          have HI2 := Lib.hid (show i1 < l.length by omega)
          have HI1E := Lib.hid hi1e
          rw [eA] at eA2
          have eA3 := Option.some.inj eA2
          injection eA3 with e5 e6
          subst e5 e6
          subst eA
          clear eA2 hbl2
          have HIF := Lib.hid (show absP p (l.getD i 0 :: l.getD (i + 1) 0 :: l.drop (i + 2)) ⟨qa, qb, qc⟩ = fin by rw [← HD.out]; exact HI.out)
          clear HD hlt hrd hi2 hx hi1e
          obtain ⟨y, hy⟩ : ∃ y, y = l.getD (i + 1) 0 := ⟨_, rfl⟩
          generalize l.getD i 0 = x at *
          rw [← hy] at HIF cl2
          have HY := Lib.hid hy.symm
          clear hy
          have HA1 := Lib.hid (fun w => HA.out qa x w)
          have HA2 := Lib.hid (fun w => HA.out qb y w)
          obtain ⟨na, hna⟩ : ∃ na, na = (qa + x) % p := ⟨_, rfl⟩
          obtain ⟨nb, hnb⟩ : ∃ nb, nb = (qb + y) % p := ⟨_, rfl⟩
          rw [← hna] at HA1
          rw [← hnb] at HA2
          obtain ⟨z, hz⟩ : ∃ z, z = permP p ⟨na, nb, qc⟩ := ⟨_, rfl⟩
          have HX := Lib.hid (show ∀ w, Calls Try.prog 100 #[.int .u64 p, .agg #[.int .u64 (na : Int), .int .u64 (nb : Int), .int .u64 (qc : Int)]] w fun e w' => e = .returned (.agg #[.int .u64 (z.a : Int), .int .u64 (z.b : Int), .int .u64 (z.c : Int)]) ∧ Below w.heap.size w w' from fun w => by rw [hz]; exact HP.out ⟨na, nb, qc⟩ w)
          have HZ := Lib.hid (show absP p (l.drop (i + 2)) z = fin by rw [hz]; rw [hna, hnb]; exact HIF.out)
          clear hz
          clear HIF hna hnb
          have cs := ks.cell
          have ls := ks.lt
          have cl2H := Lib.hid cl2
          clear cl2
          go_wp2_with fail
          refine wpGO_begin (Later) (later_moves) [9] [9] [0, 1, 2, 3, 4, 5, 6, 7, 8, 9] (by kernel_rfl) (by kernel_rfl) ?_
          refine wpGO_start (later_moves) ?_
          intro Wc hacc
          repeat (first | (refine wpGO_skip (later_moves) rfl rfl rfl rfl (fun _ _ _ h => h) ?_ ; simp only [Act.put, List.setIfInBounds_toArray, List.set_cons_zero, List.set_cons_succ]) | (refine wpGO_light (v := ?_) (later_moves) rfl rfl rfl rfl (fun _ _ _ h => h) ?_ ?_ ; rotate_left ; (· (intro w' hR ; (first | have hcells := later_cellsD ((later_moves).trans _ _ _ hacc hR) | skip) ; go_simp ; try with_reducible rfl)) ; simp only [Act.put, List.setIfInBounds_toArray, List.set_cons_zero, List.set_cons_succ]) | (refine wpGO_free (v := ?_) rfl rfl rfl rfl (fun _ _ _ h => h) ?_ ?_ ; rotate_left ; (· (intro w' ; go_simp ; try with_reducible rfl)) ; simp only [Act.put, List.setIfInBounds_toArray, List.set_cons_zero, List.set_cons_succ]))
          refine wpGO_call (later_moves) rfl rfl rfl rfl (fun _ _ _ h => h) (fun _ => by go_simp <;> rfl) (fun w' hR => HA1.out _) ?_
          simp only [Act.put, List.setIfInBounds_toArray, List.set_cons_zero, List.set_cons_succ]
          repeat (first | (refine wpGO_skip (later_moves) rfl rfl rfl rfl (fun _ _ _ h => h) ?_ ; simp only [Act.put, List.setIfInBounds_toArray, List.set_cons_zero, List.set_cons_succ]) | (refine wpGO_light (v := ?_) (later_moves) rfl rfl rfl rfl (fun _ _ _ h => h) ?_ ?_ ; rotate_left ; (· (intro w' hR ; (first | have hcells := later_cellsD ((later_moves).trans _ _ _ hacc hR) | skip) ; go_simp ; try with_reducible rfl)) ; simp only [Act.put, List.setIfInBounds_toArray, List.set_cons_zero, List.set_cons_succ]) | (refine wpGO_free (v := ?_) rfl rfl rfl rfl (fun _ _ _ h => h) ?_ ?_ ; rotate_left ; (· (intro w' ; go_simp ; try with_reducible rfl)) ; simp only [Act.put, List.setIfInBounds_toArray, List.set_cons_zero, List.set_cons_succ]))
          refine wpGO_heavy rfl rfl rfl rfl ?_
          intro wh hRh
          replace hacc := (later_moves).trans _ _ _ hacc hRh
          replace kr := kr.drew.below hacc kr.lt
          replace ks := ks.drew.below hacc ks.lt
          replace hb0 := below_chain hb0.drew hacc
          clear cs ls hacc hRh cl
          have c2 := ks.cell
          have f2 := ks.frozen
          go_simp
          refine ⟨fun h => Bool.noConfusion h, ?_⟩
          have hg : wh.grownBy (wh.setCell ⟨g, 0, none⟩ (.int .u64 (na : Int))) (some g) := grown_setCell' (p := ⟨g, 0, none⟩) (grown_refl' wh _) (.inl rfl) _
          replace ks := ks.set_ 0 (.int .u64 (na : Int))
          simp at ks
          replace kr := kr.grown hg (fun e => by have := Option.some.inj e; omega)
          replace hb0 := hb0.trans (below_of_only hg hb0.size (by omega))
          clear hg c2 f2
          generalize wh.setCell _ _ = Wf0 at ks kr hb0 ⊢
          refine wpGO_doneP rfl ?_
          have cl2 : Wf0.cell? ⟨bb, bq + i1, none⟩ = some (.int .u64 (y : Int)) := by obtain ⟨b3, q3, e3, -, h3⟩ := lw_get (HRD.out.below hb0) HI2.out; have e4 := Option.some.inj e3; injection e4 with e5 e6; subst e5 e6; rw [h3, HI1E.out, HY.out]
          have hbl2 : bb < Wf0.heap.size := World.block_lt_of_cell? _ _ cl2
          have cs := ks.cell
          have ls := ks.lt
          go_wp2_with fail
          refine wpGO_begin (Later) (later_moves) [10] [10] [0, 1, 2, 3, 4, 5, 6, 7, 8, 9, 10] (by kernel_rfl) (by kernel_rfl) ?_
          refine wpGO_start (later_moves) ?_
          intro Wc hacc
          repeat (first | (refine wpGO_skip (later_moves) rfl rfl rfl rfl (fun _ _ _ h => h) ?_ ; simp only [Act.put, List.setIfInBounds_toArray, List.set_cons_zero, List.set_cons_succ]) | (refine wpGO_light (v := ?_) (later_moves) rfl rfl rfl rfl (fun _ _ _ h => h) ?_ ?_ ; rotate_left ; (· (intro w' hR ; (first | have hcells := later_cellsD ((later_moves).trans _ _ _ hacc hR) | skip) ; go_simp ; try with_reducible rfl)) ; simp only [Act.put, List.setIfInBounds_toArray, List.set_cons_zero, List.set_cons_succ]) | (refine wpGO_free (v := ?_) rfl rfl rfl rfl (fun _ _ _ h => h) ?_ ?_ ; rotate_left ; (· (intro w' ; go_simp ; try with_reducible rfl)) ; simp only [Act.put, List.setIfInBounds_toArray, List.set_cons_zero, List.set_cons_succ]))
          refine wpGO_call (later_moves) rfl rfl rfl rfl (fun _ _ _ h => h) (fun _ => by go_simp <;> rfl) (fun w' hR => HA2.out _) ?_
          simp only [Act.put, List.setIfInBounds_toArray, List.set_cons_zero, List.set_cons_succ]
          repeat (first | (refine wpGO_skip (later_moves) rfl rfl rfl rfl (fun _ _ _ h => h) ?_ ; simp only [Act.put, List.setIfInBounds_toArray, List.set_cons_zero, List.set_cons_succ]) | (refine wpGO_light (v := ?_) (later_moves) rfl rfl rfl rfl (fun _ _ _ h => h) ?_ ?_ ; rotate_left ; (· (intro w' hR ; (first | have hcells := later_cellsD ((later_moves).trans _ _ _ hacc hR) | skip) ; go_simp ; try with_reducible rfl)) ; simp only [Act.put, List.setIfInBounds_toArray, List.set_cons_zero, List.set_cons_succ]) | (refine wpGO_free (v := ?_) rfl rfl rfl rfl (fun _ _ _ h => h) ?_ ?_ ; rotate_left ; (· (intro w' ; go_simp ; try with_reducible rfl)) ; simp only [Act.put, List.setIfInBounds_toArray, List.set_cons_zero, List.set_cons_succ]))
          refine wpGO_heavy rfl rfl rfl rfl ?_
          intro wh hRh
          replace hacc := (later_moves).trans _ _ _ hacc hRh
          replace kr := kr.drew.below hacc kr.lt
          replace ks := ks.drew.below hacc ks.lt
          replace hb0 := below_chain hb0.drew hacc
          clear cs ls hacc hRh cl2
          have c2 := ks.cell
          have f2 := ks.frozen
          go_simp
          refine ⟨fun h => Bool.noConfusion h, ?_⟩
          have hg : wh.grownBy (wh.setCell ⟨g, 1, none⟩ (.int .u64 (nb : Int))) (some g) := grown_setCell' (p := ⟨g, 1, none⟩) (grown_refl' wh _) (.inl rfl) _
          replace ks := ks.set_ 1 (.int .u64 (nb : Int))
          simp at ks
          replace kr := kr.grown hg (fun e => by have := Option.some.inj e; omega)
          replace hb0 := hb0.trans (below_of_only hg hb0.size (by omega))
          clear hg c2 f2
          generalize wh.setCell _ _ = Wf1 at ks kr hb0 ⊢
          refine wpGO_doneP rfl ?_
          have cs := ks.cell
          go_wp2_with fail
          refine (HX.out _).mono ?_
          rintro e w5 ⟨rfl, hb5⟩
          replace kr := kr.below hb5 kr.lt
          replace ks := ks.below hb5 ks.lt
          replace hb0 := below_chain hb0 hb5
          clear cs hb5
          have cs := ks.cell
          have fs := ks.frozen
          go_wp2_with fail
          have hg := set3_grown (w := w5) (g := g) (.int .u64 (z.a : Int)) (.int .u64 (z.b : Int)) (.int .u64 (z.c : Int))
          have kz := set3_blk ks (.int .u64 (z.a : Int)) (.int .u64 (z.b : Int)) (.int .u64 (z.c : Int))
          replace kr := kr.grown hg (fun e => by have := Option.some.inj e; omega)
          replace hb0 := hb0.trans (below_of_only hg hb0.size (by omega))
          clear hg cs fs ks
          generalize ((World.setCell w5 _ _).setCell _ _).setCell _ _ = Wz at kz kr hb0 ⊢
          go_roundw
          case rel => exact ⟨i + 2, z, by omega, by go_num, kr, kz, hb0, HZ.out⟩
          case measure => simp [intOf]; omega
        · have hi3 : i + 1 = l.length := by omega
          have HD := Lib.hid (drop_one hi3)
          have g3 : ¬ ((i : Int) + 1 < (l.length : Int)) := by omega
          subst eA
          have HIF := Lib.hid (show absP p [l.getD i 0] ⟨qa, qb, qc⟩ = fin by rw [← HD.out]; exact HI.out)
          have HDN := Lib.hid (show l.drop (i + 2) = [] from List.drop_of_length_le (by omega))
          clear HD hlt hrd hx
          generalize l.getD i 0 = x at *
          have HA1 := Lib.hid (fun w => HA.out qa x w)
          obtain ⟨na, hna⟩ : ∃ na, na = (qa + x) % p := ⟨_, rfl⟩
          rw [← hna] at HA1
          obtain ⟨z, hz⟩ : ∃ z, z = permP p ⟨na, qb, qc⟩ := ⟨_, rfl⟩
          have HX := Lib.hid (show ∀ w, Calls Try.prog 100 #[.int .u64 p, .agg #[.int .u64 (na : Int), .int .u64 (qb : Int), .int .u64 (qc : Int)]] w fun e w' => e = .returned (.agg #[.int .u64 (z.a : Int), .int .u64 (z.b : Int), .int .u64 (z.c : Int)]) ∧ Below w.heap.size w w' from fun w => by rw [hz]; exact HP.out ⟨na, qb, qc⟩ w)
          have HZ := Lib.hid (show absP p (l.drop (i + 2)) z = fin by rw [hz]; rw [HDN.out, hna]; exact HIF.out)
          clear hz
          clear HIF HDN hi2 hi3 hna
          have cs := ks.cell
          have ls := ks.lt
          go_wp2_with fail
          refine wpGO_begin (Later) (later_moves) [9] [9] [0, 1, 2, 3, 4, 5, 6, 7, 8, 9] (by kernel_rfl) (by kernel_rfl) ?_
          refine wpGO_start (later_moves) ?_
          intro Wc hacc
          repeat (first | (refine wpGO_skip (later_moves) rfl rfl rfl rfl (fun _ _ _ h => h) ?_ ; simp only [Act.put, List.setIfInBounds_toArray, List.set_cons_zero, List.set_cons_succ]) | (refine wpGO_light (v := ?_) (later_moves) rfl rfl rfl rfl (fun _ _ _ h => h) ?_ ?_ ; rotate_left ; (· (intro w' hR ; (first | have hcells := later_cellsD ((later_moves).trans _ _ _ hacc hR) | skip) ; go_simp ; try with_reducible rfl)) ; simp only [Act.put, List.setIfInBounds_toArray, List.set_cons_zero, List.set_cons_succ]) | (refine wpGO_free (v := ?_) rfl rfl rfl rfl (fun _ _ _ h => h) ?_ ?_ ; rotate_left ; (· (intro w' ; go_simp ; try with_reducible rfl)) ; simp only [Act.put, List.setIfInBounds_toArray, List.set_cons_zero, List.set_cons_succ]))
          refine wpGO_call (later_moves) rfl rfl rfl rfl (fun _ _ _ h => h) (fun _ => by go_simp <;> rfl) (fun w' hR => HA1.out _) ?_
          simp only [Act.put, List.setIfInBounds_toArray, List.set_cons_zero, List.set_cons_succ]
          repeat (first | (refine wpGO_skip (later_moves) rfl rfl rfl rfl (fun _ _ _ h => h) ?_ ; simp only [Act.put, List.setIfInBounds_toArray, List.set_cons_zero, List.set_cons_succ]) | (refine wpGO_light (v := ?_) (later_moves) rfl rfl rfl rfl (fun _ _ _ h => h) ?_ ?_ ; rotate_left ; (· (intro w' hR ; (first | have hcells := later_cellsD ((later_moves).trans _ _ _ hacc hR) | skip) ; go_simp ; try with_reducible rfl)) ; simp only [Act.put, List.setIfInBounds_toArray, List.set_cons_zero, List.set_cons_succ]) | (refine wpGO_free (v := ?_) rfl rfl rfl rfl (fun _ _ _ h => h) ?_ ?_ ; rotate_left ; (· (intro w' ; go_simp ; try with_reducible rfl)) ; simp only [Act.put, List.setIfInBounds_toArray, List.set_cons_zero, List.set_cons_succ]))
          refine wpGO_heavy rfl rfl rfl rfl ?_
          intro wh hRh
          replace hacc := (later_moves).trans _ _ _ hacc hRh
          replace kr := kr.drew.below hacc kr.lt
          replace ks := ks.drew.below hacc ks.lt
          replace hb0 := below_chain hb0.drew hacc
          clear cs ls hacc hRh cl
          have c2 := ks.cell
          have f2 := ks.frozen
          go_simp
          refine ⟨fun h => Bool.noConfusion h, ?_⟩
          have hg : wh.grownBy (wh.setCell ⟨g, 0, none⟩ (.int .u64 (na : Int))) (some g) := grown_setCell' (p := ⟨g, 0, none⟩) (grown_refl' wh _) (.inl rfl) _
          replace ks := ks.set_ 0 (.int .u64 (na : Int))
          simp at ks
          replace kr := kr.grown hg (fun e => by have := Option.some.inj e; omega)
          replace hb0 := hb0.trans (below_of_only hg hb0.size (by omega))
          clear hg c2 f2
          generalize wh.setCell _ _ = Wf0 at ks kr hb0 ⊢
          refine wpGO_doneP rfl ?_
          have cs := ks.cell
          go_wp2_with fail
          refine (HX.out _).mono ?_
          rintro e w5 ⟨rfl, hb5⟩
          replace kr := kr.below hb5 kr.lt
          replace ks := ks.below hb5 ks.lt
          replace hb0 := below_chain hb0 hb5
          clear cs hb5
          have cs := ks.cell
          have fs := ks.frozen
          go_wp2_with fail
          have hg := set3_grown (w := w5) (g := g) (.int .u64 (z.a : Int)) (.int .u64 (z.b : Int)) (.int .u64 (z.c : Int))
          have kz := set3_blk ks (.int .u64 (z.a : Int)) (.int .u64 (z.b : Int)) (.int .u64 (z.c : Int))
          replace kr := kr.grown hg (fun e => by have := Option.some.inj e; omega)
          replace hb0 := hb0.trans (below_of_only hg hb0.size (by omega))
          clear hg cs fs ks
          generalize ((World.setCell w5 _ _).setCell _ _).setCell _ _ = Wz at kz kr hb0 ⊢
          go_roundw
          case rel => exact ⟨i + 2, z, by omega, by go_num, kr, kz, hb0, HZ.out⟩
          case measure => simp [intOf]; omega
    · have HQ := Lib.hid (show (⟨qa, qb, qc⟩ : St) = fin by have := HI.out; rw [List.drop_of_length_le (by omega)] at this; exact this)
      have g2 : ¬ ((i : Int) < (l.length : Int)) := by omega
      have gi : ((i : Int) == 0) = false := by rw [beq_eq_false_iff_ne]; omega
      have cs := ks.cell
      have cr := kr.cell
      have fr := kr.frozen
      clear hrd hlt
      go_wp2_with fail
      have hg := set3_grown (w := wr) (g := w.heap.size) (.int .u64 (qa : Int)) (.int .u64 (qb : Int)) (.int .u64 (qc : Int))
      have kz := set3_blk kr (.int .u64 (qa : Int)) (.int .u64 (qb : Int)) (.int .u64 (qc : Int))
      clear cs cr fr kr ks
      generalize ((World.setCell wr _ _).setCell _ _).setCell _ _ = Wz at hg kz ⊢
      have cz := kz.cell
      exact bodyPost_ret (v := .agg #[.int .u64 (qa : Int), .int .u64 (qb : Int), .int .u64 (qc : Int)]) (by simp [results, Try.results99, go_sem, cz]) rfl ⟨by rw [← HQ.out]; rfl, hb0.trans (below_of_only hg hb0.size (Nat.le_refl _))⟩
end Go.Proofs.Ytefnagiffllhbaa

/- SqB -/
namespace Go.Proofs.Ytefnagiffllhbaa
open Go.RowKit

theorem own_stay {w w' : World} {base B : Nat} {e : TypeId} {size : Nat} {v : Value} {n : Nat} {xs : List Value} (h : w.ownsRow base e size v n xs) (hg : w.grownBy w' (some B)) (hB : B < base) : w'.ownsRow base e size v n xs := by
  obtain ⟨h1, h2⟩ := h
  refine ⟨h1, ?_⟩
  rcases h2 with h2 | ⟨g, cap, cur, hv, hgb, hh, r⟩
  · exact Or.inl h2
  · exact Or.inr ⟨g, cap, cur, hv, hgb, by rw [hg.block g (Array.getElem?_eq_some_iff.1 hh).1 (fun e => by have := Option.some.inj e; omega)]; exact hh, r⟩
theorem range_snoc (f : Nat → Nat) (i : Nat) : (List.range i).map f ++ [f i] = (List.range (i + 1)).map f := by simp [List.range_succ]

set_option maxRecDepth 100000 in
set_option maxHeartbeats 1000000 in
theorem rSqueeze_any (p label : Nat) (A : Option Addr) (n c m : Nat) (l : List Nat) (w : World) (hp : okP p = true) (hl : RWd w [.slice A n c] l) (hne : 0 < l.length) (hlen : l.length ≤ 1000000) (hm : m ≤ 65536) :
    Calls Try.prog 63 #[.int .u64 p, .int .u64 label, .slice A n c, .int .i64 (m : Int)] w fun e w' => ∃ v, e = .returned v ∧ w'.ownsRow w.heap.size 22 1 v m (U64 ((List.range m).map (sqAt p (absorbP p label l)))) ∧ Below w.heap.size w w' := by
  obtain ⟨hp1, hp2⟩ := okP_lt hp
  have HV := Lib.hid (fun w => by have := rValidP_any p w hp2; rw [hp] at this; exact this)
  have HAb := Lib.hid (fun w' (hb : Below w.heap.size w w') => rAbsorb_any p label A n c l w' hp (kept_RWd _ _ _ _ hb hl) hne hlen)
  have HP := Lib.hid (fun s w => rPermute_any p s w hp)
  have g0 : ¬ ((m : Int) < 0) := by omega
  have g1 : (m : Int) ≤ 65536 := by omega
  clear hl hne hlen hp hp1 hp2
  generalize absorbP p label l = s at *
  go_enter Try.func63, Try.ntmps63
  go_wp2_with fail
  refine (HV.out _).mono ?_
  rintro e w1 ⟨rfl, hb1⟩
  go_wp2_with fail
  refine (HAb.out _ hb1).mono ?_
  rintro e w2 ⟨rfl, hb2⟩
  have hb0 := below_chain hb1 hb2
  have ev : s.val = .agg #[.int .u64 (s.a : Int), .int .u64 (s.b : Int), .int .u64 (s.c : Int)] := rfl
  rw [ev]
  have hal := (Below.refl w2.heap.size w2).alloc (Nat.le_refl _) (.cells #[.int .u64 (s.a : Int), .int .u64 (s.b : Int), .int .u64 (s.c : Int)] 120)
  have ks0 := Blk.new w2 120 #[.int .u64 (s.a : Int), .int .u64 (s.b : Int), .int .u64 (s.c : Int)]
  have hs2 := hb0.size
  replace hb0 := below_chain hb0 hal
  clear ev hb1 hb2 hal
  go_upto_region 4 with fail
  generalize w2.alloc _ = w3 at ks0 hb0 ⊢
  generalize w2.heap.size = gs at *
  have ks : Blk w3 gs 120 (perI p s (0 / 2)).cs := ks0
  clear ks0
  have hgs : gs < w3.heap.size := ks.lt
  go_wp2_with fail
  go_loopw [10, 11] (fun v y wr => ∃ i : Nat, i ≤ m ∧ y = .int .i64 (i : Int) ∧ Blk wr gs 120 (perI p s (i / 2)).cs ∧ wr.ownsRow w3.heap.size 22 1 v i (U64 ((List.range i).map (sqAt p s))) ∧ Below w.heap.size w wr ∧ w3.heap.size ≤ wr.heap.size) (fun _ y _ => m - (intOf y).toNat)
  case atStart => exact ⟨0, Nat.zero_le _, rfl, ks, ⟨rfl, .inl ⟨rfl, rfl⟩⟩, hb0, Nat.le_refl _⟩
  case round =>
    clear ks hb0
    obtain ⟨i, hi, rfl, ks, hown, hb0, hsz⟩ := hrel
    by_cases hlt : i < m
    · have g2 : (i : Int) < (m : Int) := by omega
      have g3 : (0 : Int) ≤ (i : Int) := by omega
      obtain ⟨sv, hsv⟩ : ∃ sv, sv = sqAt p s i := ⟨_, rfl⟩
      obtain ⟨j, hj⟩ : ∃ j, j = i % 2 := ⟨_, rfl⟩
      have hj3 : j < 3 := by omega
      have ej : (i : Int) % 2 = (j : Int) := by omega
      have ej2 : (i : Int).tmod 2 = (j : Int) := by rw [Int.tmod_eq_emod_of_nonneg (by omega)]; exact ej
      have HSQ := Lib.hid (show (perI p s (i / 2)).at_ j = sv by rw [hj, hsv]; rfl)
      have HRS := Lib.hid (show (List.range i).map (sqAt p s) ++ [sv] = (List.range (i + 1)).map (sqAt p s) by rw [hsv]; exact range_snoc _ _)
      have cj := ks.cell j
      rw [St.cs_at _ hj3, HSQ.out] at cj
      obtain ⟨q, hq⟩ : ∃ q, q = perI p s (i / 2) := ⟨_, rfl⟩
      rw [← hq] at ks
      have HQ := Lib.hid hq.symm
      have HJ := Lib.hid hj
      clear hsv hq hj
      go_wp2_with (at_builtin; refine wpl_append rfl _ _ rfl el_w rfl (hown.alloc _) rfl (rd_one _ _ _) (one_U64 [sv]) (by omega) (by simp; omega) ?_)
      intro v' wn hown' hgrow hblk
      have hal := (Below.refl wr.heap.size wr).alloc (Nat.le_refl _) (.cells #[.int .u64 (sv : Int)] 22)
      have hB := lw_grow (hown.alloc _) hgrow (by simp; omega)
      have hks := (ks.below hal ks.lt).below hB hgs
      replace hb0 := (below_on hb0 hal hb0.size).trans (hB.mono (by have := hb0.size; omega))
      have hszn : w3.heap.size ≤ wn.heap.size := by have := hgrow.size; simp at this; omega
      replace hown' : wn.ownsRow w3.heap.size 22 1 v' (i + 1) (U64 ((List.range (i + 1)).map (sqAt p s))) := lw_app (a := (List.range i).map (sqAt p s)) (b := [sv]) hown' HRS.out
      clear hown hgrow hblk hal hB ks cj hsz
      rcases (show j = 0 ∨ j = 1 by have := HJ.out; omega) with h0 | h1
      · have d3 : ((j : Int) == 1) = false := by rw [beq_eq_false_iff_ne]; omega
        have HH := Lib.hid (show i / 2 = (i + 1) / 2 by have := HJ.out; omega)
        rw [← HQ.out, HH.out] at hks
        clear h0
        go_wp2
        go_roundw
        case rel => exact ⟨i + 1, by omega, by go_num, hks, hown', hb0, hszn⟩
        case measure => simp [intOf]; omega
      · have d3 : ((j : Int) == 1) = true := by rw [beq_iff_eq]; omega
        have HH := Lib.hid (show (i + 1) / 2 = i / 2 + 1 by have := HJ.out; omega)
        obtain ⟨z, hz⟩ : ∃ z, z = permP p q := ⟨_, rfl⟩
        have HZ := Lib.hid (show perI p s ((i + 1) / 2) = z by rw [HH.out, perI, HQ.out, hz])
        have HX := Lib.hid (show ∀ w, Calls Try.prog 100 #[.int .u64 p, .agg #[.int .u64 (q.a : Int), .int .u64 (q.b : Int), .int .u64 (q.c : Int)]] w fun e w' => e = .returned (.agg #[.int .u64 (z.a : Int), .int .u64 (z.b : Int), .int .u64 (z.c : Int)]) ∧ Below w.heap.size w w' from fun w => by rw [hz]; exact HP.out q w)
        have ks2 : Blk wn gs 120 #[.int .u64 (q.a : Int), .int .u64 (q.b : Int), .int .u64 (q.c : Int)] := hks
        clear h1 hz hks
        have cs := ks2.cell
        go_wp2_with fail
        refine (HX.out _).mono ?_
        rintro e w5 ⟨rfl, hb5⟩
        replace ks2 := ks2.below hb5 ks2.lt
        replace hown' := own_below hown' hb5 (Nat.le_refl _)
        replace hb0 := below_chain hb0 hb5
        have hs5 := hb5.size
        clear cs hb5
        have cs := ks2.cell
        have fs := ks2.frozen
        go_wp2_with fail
        have hg := set3_grown (w := w5) (g := gs) (.int .u64 (z.a : Int)) (.int .u64 (z.b : Int)) (.int .u64 (z.c : Int))
        have ks : Blk _ gs 120 z.cs := set3_blk ks2 (.int .u64 (z.a : Int)) (.int .u64 (z.b : Int)) (.int .u64 (z.c : Int))
        replace hown' := own_stay hown' hg hgs
        replace hb0 := hb0.trans (below_of_only hg hb0.size (by omega))
        have hs6 := hg.size
        clear hg cs fs ks2
        go_roundw
        case rel => exact ⟨i + 1, by omega, by go_num, by rw [HZ.out]; exact ks, hown', hb0, by omega⟩
        case measure => simp [intOf]; omega
    · obtain rfl : i = m := by omega
      go_wp2
      go_ret
      exact ⟨_, rfl, own_base hown (by omega), hb0⟩
end Go.Proofs.Ytefnagiffllhbaa

/- MkA -/
namespace Go.Proofs.Ytefnagiffllhbaa
open Go.RowKit

def bigQ : Nat := 18446744069414584321
theorem okBig : okP bigQ = true := by decide
/-- Draw k of the big prime, out of a list whose head is reduced. -/
def drawAt (x : Nat) (r : List Nat) (k : Nat) : Nat := sqAt bigQ (absorbP bigQ 22 (x % bigQ :: r)) k

set_option maxRecDepth 100000 in
set_option maxHeartbeats 1000000 in
theorem pDraws_any (x : Nat) (r : List Nat) (m g : Nat) (w : World) (kg : Blk w g 22 (U64 (x :: r)).toArray) (hx : ∀ y ∈ x :: r, y < 18446744073709551616) (hr : r.length ≤ 1000) (hm : m ≤ 65536) :
    Calls Try.prog 28 #[.int .i64 (m : Int), .slice (some ⟨g, 0, none⟩) (r.length + 1) (r.length + 1)] w fun e w' => ∃ g', e = .returned (.slice (some ⟨g', 0, none⟩) m m) ∧ w.heap.size ≤ g' ∧ Blk w' g' 22 (fillC m (drawAt x r)) ∧ w.grownBy w' (some g) := by
  have HR := Lib.hid (fun w => fReduce_any bigQ x w okBig)
  have hq : x % bigQ < 18446744073709551616 := Nat.lt_of_le_of_lt (Nat.mod_le _ _) (hx x (by simp))
  obtain ⟨y, hy⟩ : ∃ y, y = x % bigQ := ⟨_, rfl⟩
  have HD := Lib.hid (show drawAt x r = sqAt bigQ (absorbP bigQ 22 (y :: r)) by rw [hy]; rfl)
  rw [← hy] at HR hq
  rw [HD.out]
  have HS := Lib.hid (fun w (k : Blk w g 22 (U64 (y :: r)).toArray) => pSqueeze_any bigQ 22 (some ⟨g, 0, none⟩) (y :: r).length (y :: r).length m (y :: r) w okBig (lw_lit k (fun z hz => by
    rcases List.mem_cons.1 hz with rfl | h
    · exact hq
    · exact hx z (by simp [h])) (by simp [maxLen]; omega)) (by simp) (by simp; omega) hm)
  have HST := Lib.hid (show (U64 (x :: r)).toArray.setIfInBounds 0 (.int .u64 (y : Int)) = (U64 (y :: r)).toArray by simp [U64])
  have hc0 : w.cell? ⟨g, 0, none⟩ = some (.int .u64 (x : Int)) := by rw [kg.cell]; simp [U64]
  have n1 : (0 : Int) < ((r.length + 1 : Nat) : Int) := by omega
  have n2 : 0 < r.length + 1 := by omega
  simp only [List.length_cons] at HS
  clear hy hq hx HD
  generalize r.length + 1 = n at *
  generalize sqAt bigQ (absorbP bigQ 22 (y :: r)) = fs at *
  unfold bigQ fv at *
  have lg := kg.lt
  go_enter Try.func28, Try.ntmps28
  go_wp2_with fail
  refine (HR.out _).mono ?_
  rintro e w1 ⟨rfl, hb1⟩
  replace kg := kg.below hb1 lg
  have hc1 : w1.cell? ⟨g, 0, none⟩ = some (.int .u64 (x : Int)) := (Below.cell hb1 lg).trans hc0
  have f1 := kg.frozen 0
  clear hc0
  go_upto_region 2 with fail
  have hg : w1.grownBy (w1.setCell ⟨g, 0, none⟩ (.int .u64 (y : Int))) (some g) := grown_setCell' (p := ⟨g, 0, none⟩) (grown_refl' w1 _) (.inl rfl) _
  replace kg := kg.set_ 0 (.int .u64 (y : Int))
  rw [HST.out] at kg
  have hgr := grown_step (grown_below (grown_refl' w (some g)) hb1 (Nat.le_refl _)) hg (fun _ e => .inl e)
  have hs1 := hgr.size
  clear hg f1 hc1 hb1
  generalize w1.setCell _ _ = w2 at kg hgr hs1 ⊢
  go_wp2_with fail
  refine (HS.out _ kg).mono ?_
  rintro e w3 ⟨g', rfl, hg', kg', hb3⟩
  go_wp2
  go_ret
  exact ⟨g', rfl, by omega, kg', grown_below hgr hb3 hs1⟩
end Go.Proofs.Ytefnagiffllhbaa

/- MkB -/
namespace Go.Proofs.Ytefnagiffllhbaa
open Go.RowKit

/-- Draw k for a mask: of the big prime, then by the layout's. -/
def drawP (p x : Nat) (r : List Nat) (k : Nat) : Nat := drawAt x r k % p

theorem set3_two {w0 w : World} {g B : Nat} {t : TypeId} {y0 y1 y2 : Value} (k : Blk w g t #[y0, y1, y2]) (hb : Below B w0 w) (hB : B ≤ g) (x0 x1 x2 : Value) :
    Blk (((w.setCell ⟨g, 0, none⟩ x0).setCell ⟨g, 1, none⟩ x1).setCell ⟨g, 2, none⟩ x2) g t #[x0, x1, x2] ∧ Below B w0 (((w.setCell ⟨g, 0, none⟩ x0).setCell ⟨g, 1, none⟩ x1).setCell ⟨g, 2, none⟩ x2) :=
  ⟨set3_blk k x0 x1 x2, ((hb.setCell hB x0).setCell hB x1).setCell hB x2⟩
def St.lt (p : Nat) (s : St) : Prop := s.a < p ∧ s.b < p ∧ s.c < p
theorem permP_lt {p : Nat} (hp : 0 < p) (s : St) : (permP p s).lt p := ⟨Nat.mod_lt _ hp, Nat.mod_lt _ hp, Nat.mod_lt _ hp⟩
theorem absP_lt {p : Nat} (hp : 0 < p) : ∀ (l : List Nat) (s : St), s.lt p → (absP p l s).lt p
  | [], _, h => h
  | [_], _, _ => permP_lt hp _
  | _ :: _ :: r, _, _ => absP_lt hp r _ (permP_lt hp _)
theorem perI_lt {p : Nat} (hp : 0 < p) (s : St) (h : s.lt p) : ∀ m, (perI p s m).lt p
  | 0 => h
  | _ + 1 => permP_lt hp _
theorem sqAt_lt (p label : Nat) (l : List Nat) (k : Nat) (hp : 0 < p) : sqAt p (absorbP p label l) k < p := by
  have h := perI_lt hp _ (absP_lt hp l ⟨0, 0, (label * 65536 % p + l.length) % p⟩ ⟨hp, hp, Nat.mod_lt _ hp⟩) (k / 2)
  show St.at_ _ (k % 2) < p
  unfold St.at_
  split
  · exact h.1
  · split
    · exact h.2.1
    · exact h.2.2

set_option maxRecDepth 100000 in
set_option maxHeartbeats 1000000 in
theorem codeSize_any (L : LayR) (w : World) (hL : LayOk L) :
    Calls Try.prog 25 #[.agg (layCs L)] w fun e w' => e = .returned (.agg #[.int .i64 (L.k : Int), .int .i64 ((L.k + L.block - 2 : Nat) : Int), .int .i64 ((L.block + 2 * L.queries - 1 : Nat) : Int)]) ∧ Below w.heap.size w w' := by
  have h1 := hL.b1
  have h2 := hL.b2
  have h3 := hL.q1
  have h4 := hL.q2
  have h5 := hL.k
  obtain ⟨x, hx⟩ : ∃ x, x = L.k + L.block - 2 := ⟨_, rfl⟩
  obtain ⟨y, hy⟩ : ∃ y, y = L.block + 2 * L.queries - 1 := ⟨_, rfl⟩
  rw [← hx, ← hy]
  have e1 : IntKind.i64.wrap ((L.k : Int) + (L.block : Int)) = (L.k : Int) + (L.block : Int) := wr_i64 _ (by omega) (by omega)
  have e2 : IntKind.i64.wrap ((L.k : Int) + (L.block : Int) - 2) = (x : Int) := by rw [wr_i64 _ (by omega) (by omega)]; omega
  have e3 : IntKind.i64.wrap (2 * (L.queries : Int)) = 2 * (L.queries : Int) := wr_i64 _ (by omega) (by omega)
  have e4 : IntKind.i64.wrap ((L.block : Int) + 2 * (L.queries : Int)) = (L.block : Int) + 2 * (L.queries : Int) := wr_i64 _ (by omega) (by omega)
  have e5 : IntKind.i64.wrap ((L.block : Int) + 2 * (L.queries : Int) - 1) = (y : Int) := by rw [wr_i64 _ (by omega) (by omega)]; omega
  clear h1 h2 h3 h4 h5 hx hy hL
  unfold layCs at *
  go_enter Try.func25, Try.ntmps25
  go_wp2_with fail
  exact bodyPost_ret (v := .agg #[.int .i64 (L.k : Int), .int .i64 (x : Int), .int .i64 (y : Int)]) (by simp [results, Try.results25, go_sem]) rfl ⟨rfl, ((Below.refl _ w).alloc (Nat.le_refl _) _).alloc (by simp) _⟩

set_option maxRecDepth 100000 in
set_option maxHeartbeats 1000000 in
theorem mSqueeze_any (L : LayR) (x : Nat) (r : List Nat) (m g : Nat) (w : World) (hp : okP L.p = true) (kg : Blk w g 22 (U64 (x :: r)).toArray) (hx : ∀ y ∈ x :: r, y < 18446744073709551616) (hr : r.length ≤ 1000) (hm : m ≤ 65536) :
    Calls Try.prog 27 #[.agg (layCs L), .int .i64 (m : Int), .slice (some ⟨g, 0, none⟩) (r.length + 1) (r.length + 1)] w fun e w' => ∃ g', e = .returned (.slice (some ⟨g', 0, none⟩) m m) ∧ w.heap.size ≤ g' ∧ Blk w' g' 22 (fillC m (drawP L.p x r)) ∧ w.grownBy w' (some g) := by
  have HD := Lib.hid (fun w k => pDraws_any x r m g w k hx hr hm)
  have HR := Lib.hid (fun n w => fReduce_any L.p n w hp)
  have lg := kg.lt
  obtain ⟨kl, kf, hba, hsz⟩ := boxes2 w 41 88 (layCs L) #[.int .u64 (L.p : Int)]
  have kg2 := kg.below hba lg
  have HF := Lib.hid (fun k hk => fill_get (n := m) (f := drawAt x r) (k := k) hk)
  have hfp : drawP L.p x r = fun k => drawAt x r k % L.p := rfl
  rw [hfp]
  clear hx hr hfp
  generalize r.length + 1 = n at *
  generalize drawAt x r = fs at *
  generalize (U64 (x :: r)).toArray = us at *
  unfold layCs fv at *
  generalize L.p = p at *
  go_enter Try.func27, Try.ntmps27
  go_wp2_with fail
  generalize (w.alloc _).alloc _ = w2 at kf kg2 hba hsz ⊢
  clear kl kg
  refine (HD.out _ kg2).mono ?_
  rintro e w3 ⟨g', rfl, hg', kg', hgr⟩
  replace kf := kf.grown hgr (fun e => by have := Option.some.inj e; omega)
  replace hgr : w.grownBy w3 (some g) := grown_step (grown_below (grown_refl' w (some g)) hba (Nat.le_refl _)) hgr (fun _ e => .inl e)
  rw [show fillC m fs = fillC m (fun k => if k < 0 then fs k % p else fs k) from fill_same fun i _ => by rw [if_neg (by omega)]] at kg'
  clear kg2
  go_wp2_with fail
  go_loopw [19] (fun y wr => ∃ i : Nat, i ≤ m ∧ y = .int .i64 (i : Int) ∧ Blk wr (w.heap.size + 1) 88 #[.int .u64 (p : Int)] ∧ Blk wr g' 22 (fillC m fun k => if k < i then fs k % p else fs k) ∧ w.grownBy wr (some g)) (fun y _ => m - (intOf y).toNat)
  case atStart => exact ⟨0, Nat.zero_le _, rfl, kf, kg', hgr⟩
  case round =>
    clear kf kg' hgr
    obtain ⟨i, hi, rfl, kf, kg', hgr⟩ := hrel
    by_cases hlt : i < m
    · have g2 : (i : Int) < (m : Int) := by omega
      have g3 : (0 : Int) ≤ (i : Int) := by omega
      have ci := kg'.cell i
      rw [fill_get _ hlt, if_neg (Nat.lt_irrefl i)] at ci
      have cf := kf.cell
      obtain ⟨fi, hfi⟩ : ∃ fi, fi = fs i := ⟨_, rfl⟩
      obtain ⟨z, hz⟩ : ∃ z, z = fi % p := ⟨_, rfl⟩
      have HZ := Lib.hid (show fs i % p = z by rw [← hfi, hz])
      have HX := Lib.hid (fun w => by have := HR.out fi w; rw [← hz] at this; exact this)
      rw [← hfi] at ci
      clear hfi hz
      go_wp2_with fail
      refine (HX.out _).mono ?_
      rintro e w5 ⟨rfl, hb5⟩
      replace kf := kf.below hb5 kf.lt
      replace kg' := kg'.below hb5 kg'.lt
      have hgr5 : w.grownBy w5 (some g) := grown_below hgr hb5 hgr.size
      clear ci cf hgr hb5
      have fi2 := kg'.frozen i
      have ci2 := kg'.cell i
      rw [fill_get _ hlt] at ci2
      generalize (if i < i then fs i % p else fs i) = old at ci2
      go_wp2_with fail
      have hg : w5.grownBy (w5.setCell ⟨g', i, none⟩ (.int .u64 (z : Int))) (some g') := grown_setCell' (p := ⟨g', i, none⟩) (grown_refl' w5 _) (.inl rfl) _
      replace kf := kf.grown hg (fun e => by have := Option.some.inj e; omega)
      replace kg' := kg'.set_ i (.int .u64 (z : Int))
      have HN : (fillC m fun k => if k < i then fs k % p else fs k).setIfInBounds i (.int .u64 (z : Int)) = fillC m (fun k => if k < i + 1 then fs k % p else fs k) := by
        rw [fill_set]
        refine fill_same fun k _ => ?_
        simp only [putF]
        by_cases h : k = i
        · subst h; rw [if_pos rfl, if_pos (by omega), HZ.out]
        · rw [if_neg h]
          by_cases h2 : k < i
          · rw [if_pos h2, if_pos (by omega)]
          · rw [if_neg h2, if_neg (by omega)]
      rw [HN] at kg'
      have hgr6 := grown_step hgr5 hg (fun b e => by have := Option.some.inj e; subst this; exact .inr (by omega))
      clear hgr5 hg fi2 ci2
      go_roundw
      case rel => exact ⟨i + 1, by omega, by go_num, kf, kg', hgr6⟩
      case measure => simp [intOf]; omega
    · obtain rfl : i = m := by omega
      rw [show fillC i (fun k => if k < i then fs k % p else fs k) = fillC i (fun k => fs k % p) from fill_same fun k hk => by rw [if_pos hk]] at kg'
      go_wp2
      go_ret
      exact ⟨g', rfl, by omega, kg', hgr⟩

set_option maxRecDepth 100000 in
set_option maxHeartbeats 1000000 in
theorem rsq25_any (p : Nat) (A : Option Addr) (n c m : Nat) (l : List Nat) (w : World) (hp : 0 < p) (hp2 : p < 18446744073709551616) (hl : RWd w [.slice A n c] l) (hne : 0 < l.length) (hlen : l.length ≤ 1000000) (hm : m ≤ 65536) :
    Calls Try.prog 31 #[.int .u64 p, .int .i64 (m : Int), .slice A n c] w fun e w' => ∃ v, e = .returned v ∧ w'.ownsRow w.heap.size 22 1 v m (U64 ((List.range m).map fun k => sqAt bigQ (absorbP bigQ 22 l) k % p)) ∧ Below w.heap.size w w' := by
  have HS := Lib.hid (rSqueeze_any bigQ 22 A n c m l w okBig hl hne hlen hm)
  have HB := Lib.hid (fun k => Nat.lt_trans (sqAt_lt bigQ 22 l k (by decide)) (show bigQ < 18446744073709551616 by decide))
  clear hl hne hlen
  generalize sqAt bigQ (absorbP bigQ 22 l) = fs at *
  unfold bigQ at HS
  go_enter Try.func31, Try.ntmps31
  go_wp2_with fail
  refine HS.out.mono ?_
  rintro e w1 ⟨v, rfl, hv, hb0⟩
  obtain ⟨A1, c1, rfl, hc1, hc2, hrd, -⟩ := own_form hv
  have hlw : RWd w1 [.slice A1 m c1] ((List.range m).map fs) := lw_own hv (fun x hx => by
    obtain ⟨k, _, rfl⟩ := List.mem_map.1 hx
    exact HB.out k)
  clear hv hrd
  go_wp2_with fail
  go_loopw [8, 9] (fun v y wr => ∃ i : Nat, i ≤ m ∧ y = .int .i64 (i : Int) ∧ wr.ownsRow w1.heap.size 22 1 v i (U64 ((List.range i).map fun k => fs k % p)) ∧ Below w1.heap.size w1 wr) (fun _ y _ => m - (intOf y).toNat)
  case atStart => exact ⟨0, Nat.zero_le _, rfl, own_empty _ _ (Nat.le_refl _), (Below.refl _ _).alloc (Nat.le_refl _) _⟩
  case round =>
    obtain ⟨i, hi, rfl, hown, hb1⟩ := hrel
    by_cases hlt : i < m
    · have g2 : (i : Int) < (m : Int) := by omega
      have g3 : (0 : Int) ≤ (i : Int) := by omega
      obtain ⟨-, -, -, -, hrd⟩ := lw_at (kept_RWd _ _ _ _ hb1 hlw)
      have hlen : ((List.range m).map fs).length = m := by simp
      have hrd : Rd wr 1 A1 ((List.range m).map fs).length (U64 ((List.range m).map fs)) := by rw [hlen]; exact hrd
      obtain ⟨b, q, rfl, hbl, hc⟩ := lw_get hrd (j := i) (by rw [hlen]; exact hlt)
      have hgi : ((List.range m).map fs).getD i 0 = fs i := by simp [hlt]
      rw [hgi] at hc
      obtain ⟨fi, hfi⟩ : ∃ fi, fi = fs i := ⟨_, rfl⟩
      obtain ⟨z, hz⟩ : ∃ z, z = fi % p := ⟨_, rfl⟩
      have HRS := Lib.hid (show ((List.range i).map fun k => fs k % p) ++ [z] = (List.range (i + 1)).map fun k => fs k % p by rw [hz, hfi]; exact range_snoc (fun k => fs k % p) _)
      rw [← hfi] at hc
      have hp0 : (p : Int) ≠ 0 := by omega
      have hp1 : ((p : Int) == 0) = false := by rw [beq_eq_false_iff_ne]; omega
      have e1 : (fi : Int) % (p : Int) = (z : Int) := by rw [hz]; exact (Int.natCast_emod _ _).symm
      have e2 : (fi : Int).tmod (p : Int) = (z : Int) := by rw [Int.tmod_eq_emod_of_nonneg (by omega)]; exact e1
      clear hfi hz hgi hlen hrd
      have hs1 := hb1.size
      go_wp2_with (at_builtin; refine wpl_append rfl _ _ rfl el_w rfl (hown.alloc _) rfl (rd_one _ _ _) (one_U64 [z]) (by omega) (by simp; omega) ?_)
      intro v' wn hown' hgrow hblk
      have hal := (Below.refl wr.heap.size wr).alloc (Nat.le_refl _) (.cells #[.int .u64 (z : Int)] 22)
      have hB := lw_grow (hown.alloc _) hgrow (by simp; have := hb1.size; omega)
      replace hb1 := (below_on hb1 hal hb1.size).trans hB
      replace hown' : wn.ownsRow w1.heap.size 22 1 v' (i + 1) (U64 ((List.range (i + 1)).map fun k => fs k % p)) := lw_app (a := (List.range i).map fun k => fs k % p) (b := [z]) hown' HRS.out
      clear hown hgrow hblk hal hB hc hbl hs1
      go_wp2
      go_roundw
      case rel => exact ⟨i + 1, by omega, by go_num, hown', hb1⟩
      case measure => simp [intOf]; omega
    · obtain rfl : i = m := by omega
      go_wp2
      go_ret
      exact ⟨_, rfl, own_base hown hb0.size, below_chain hb0 hb1⟩
end Go.Proofs.Ytefnagiffllhbaa
