/-
  The program's sponge: Squeeze (of a list that is not empty).
-/
import Derived.Test.YtefnagiffllhbaaJN11
import Derived.Test.YtefnagiffllhbaaJN5

/- SpoA -/
namespace Go.Proofs.Ytefnagiffllhbaa
open Go.RowKit

def absP (p : Nat) : List Nat → St → St
  | [], s => s
  | [x], s => permP p ⟨(s.a + x) % p, s.b, s.c⟩
  | x :: y :: r, s => absP p r (permP p ⟨(s.a + x) % p, (s.b + y) % p, s.c⟩)
def absorbP (p label : Nat) (l : List Nat) : St := absP p l ⟨0, 0, (label * 65536 % p + l.length) % p⟩
theorem drop_two {l : List Nat} {i : Nat} (h : i + 1 < l.length) : l.drop i = l.getD i 0 :: l.getD (i + 1) 0 :: l.drop (i + 2) := by
  rw [List.drop_eq_getElem_cons (by omega), List.drop_eq_getElem_cons h, List.getD_eq_getElem?_getD, List.getD_eq_getElem?_getD, List.getElem?_eq_getElem h, List.getElem?_eq_getElem (show i < l.length by omega)]
  rfl
theorem drop_one {l : List Nat} {i : Nat} (h : i + 1 = l.length) : l.drop i = [l.getD i 0] := by
  rw [List.drop_eq_getElem_cons (by omega), List.getD_eq_getElem?_getD, List.getElem?_eq_getElem (show i < l.length by omega), List.drop_of_length_le (by omega)]
  rfl

set_option maxRecDepth 100000 in
set_option maxHeartbeats 1000000 in
theorem pAbsorb_any (p label : Nat) (A : Option Addr) (n c : Nat) (l : List Nat) (w : World) (hp : okP p = true) (hl : RWd w [.slice A n c] l) (hne : 0 < l.length) (hlen : l.length ≤ 1000000) :
    Calls Try.prog 97 #[.int .u64 p, .int .u64 label, .slice A n c] w fun e w' => e = .returned (absorbP p label l).val ∧ Below w.heap.size w w' := by
  obtain ⟨rfl, h1, h2, hlt, hrd⟩ := lw_at hl
  have gm := lw_max h1 h2
  have HMu := Lib.hid (fun w => fMul_any p label 65536 w hp)
  have HA0 := Lib.hid (fun w => fAdd_any p (label * 65536 % p) l.length w hp)
  have HA := Lib.hid (fun a b w => fAdd_any p a b w hp)
  have HP := Lib.hid (fun s w => pPermute_any p s w hp)
  have HF := Lib.hid (show absorbP p label l = absP p (l.drop 0) ⟨0, 0, (label * 65536 % p + l.length) % p⟩ from rfl)
  have ew : IntKind.u64.wrap (l.length : Int) = (l.length : Int) := wr_nat _ (by omega)
  generalize absorbP p label l = fin at *
  generalize (label * 65536 % p + l.length) % p = c0 at *
  generalize label * 65536 % p = m0 at *
  unfold fv at *
  clear hl h1 h2 hp
  have d0 : ((l.length : Int) == 0) = false := by rw [beq_eq_false_iff_ne]; omega
  obtain ⟨kr, kf, hb0, hsz⟩ := boxes2 w 120 88 #[.int .u64 0, .int .u64 0, .int .u64 0] #[.int .u64 (p : Int)]
  go_enter Try.func97, Try.ntmps97
  go_wp2_with fail
  generalize (w.alloc _).alloc _ = w0 at kr kf hb0 hsz ⊢
  have cf := kf.cell
  have lf := kf.lt
  refine wpGO_begin (Later) (later_moves) [9, 10] [10] [0, 1, 2, 3, 4, 5, 6, 7, 8, 9, 10] (by kernel_rfl) (by kernel_rfl) ?_
  refine wpGO_start (later_moves) ?_
  intro Wc hacc
  repeat (first | (refine wpGO_skip (later_moves) rfl rfl rfl rfl (fun _ _ _ h => h) ?_ ; simp only [Act.put, List.setIfInBounds_toArray, List.set_cons_zero, List.set_cons_succ]) | (refine wpGO_light (v := ?_) (later_moves) rfl rfl rfl rfl (fun _ _ _ h => h) ?_ ?_ ; rotate_left ; (· (intro w' hR ; (first | have hcells := later_cellsD ((later_moves).trans _ _ _ hacc hR) | skip) ; go_simp ; try with_reducible rfl)) ; simp only [Act.put, List.setIfInBounds_toArray, List.set_cons_zero, List.set_cons_succ]) | (refine wpGO_free (v := ?_) rfl rfl rfl rfl (fun _ _ _ h => h) ?_ ?_ ; rotate_left ; (· (intro w' ; go_simp ; try with_reducible rfl)) ; simp only [Act.put, List.setIfInBounds_toArray, List.set_cons_zero, List.set_cons_succ]))
  refine wpGO_call (later_moves) rfl rfl rfl rfl (fun _ _ _ h => h) (fun _ => by go_simp <;> rfl) (fun w' hR => HMu.out _) ?_
  simp only [Act.put, List.setIfInBounds_toArray, List.set_cons_zero, List.set_cons_succ]
  repeat (first | (refine wpGO_skip (later_moves) rfl rfl rfl rfl (fun _ _ _ h => h) ?_ ; simp only [Act.put, List.setIfInBounds_toArray, List.set_cons_zero, List.set_cons_succ]) | (refine wpGO_light (v := ?_) (later_moves) rfl rfl rfl rfl (fun _ _ _ h => h) ?_ ?_ ; rotate_left ; (· (intro w' hR ; (first | have hcells := later_cellsD ((later_moves).trans _ _ _ hacc hR) | skip) ; go_simp ; try with_reducible rfl)) ; simp only [Act.put, List.setIfInBounds_toArray, List.set_cons_zero, List.set_cons_succ]) | (refine wpGO_free (v := ?_) rfl rfl rfl rfl (fun _ _ _ h => h) ?_ ?_ ; rotate_left ; (· (intro w' ; go_simp ; try with_reducible rfl)) ; simp only [Act.put, List.setIfInBounds_toArray, List.set_cons_zero, List.set_cons_succ]))
  refine wpGO_call (later_moves) rfl rfl rfl rfl (fun _ _ _ h => h) (fun _ => by go_simp <;> rfl) (fun w' hR => HA0.out _) ?_
  simp only [Act.put, List.setIfInBounds_toArray, List.set_cons_zero, List.set_cons_succ]
  repeat (first | (refine wpGO_skip (later_moves) rfl rfl rfl rfl (fun _ _ _ h => h) ?_ ; simp only [Act.put, List.setIfInBounds_toArray, List.set_cons_zero, List.set_cons_succ]) | (refine wpGO_light (v := ?_) (later_moves) rfl rfl rfl rfl (fun _ _ _ h => h) ?_ ?_ ; rotate_left ; (· (intro w' hR ; (first | have hcells := later_cellsD ((later_moves).trans _ _ _ hacc hR) | skip) ; go_simp ; try with_reducible rfl)) ; simp only [Act.put, List.setIfInBounds_toArray, List.set_cons_zero, List.set_cons_succ]) | (refine wpGO_free (v := ?_) rfl rfl rfl rfl (fun _ _ _ h => h) ?_ ?_ ; rotate_left ; (· (intro w' ; go_simp ; try with_reducible rfl)) ; simp only [Act.put, List.setIfInBounds_toArray, List.set_cons_zero, List.set_cons_succ]))
  refine wpGO_heavy rfl rfl rfl rfl ?_
  intro wh hRh
  replace hacc := (later_moves).trans _ _ _ hacc hRh
  go_simp
  refine ⟨fun _ => (Below.refl _ _).alloc (Nat.le_refl _) _, ?_⟩
  replace kr := kr.drew.below hacc kr.lt
  replace kf := kf.drew.below hacc kf.lt
  replace hb0 := below_chain hb0.drew hacc
  have hsw : w.heap.size + 1 < wh.heap.size := kf.lt
  have hal := (Below.refl wh.heap.size wh).alloc (Nat.le_refl _) (.cells #[.int .u64 0, .int .u64 0, .int .u64 0] 120)
  have ks := Blk.new wh 120 #[.int .u64 0, .int .u64 0, .int .u64 0]
  replace kr := kr.below hal kr.lt
  replace kf := kf.below hal kf.lt
  replace hb0 := below_chain hb0 hal
  clear hacc hal cf lf hsz hRh
  try simp only [Act.put, List.setIfInBounds_toArray, List.set_cons_zero, List.set_cons_succ]
  generalize wh.alloc _ = w2 at kr kf hb0 ks ⊢
  generalize wh.heap.size = g at ks hsw ⊢
  have hacc := later_moves.refl w2
  refine wpGO_heavy rfl rfl rfl rfl ?_
  intro wh hRh
  replace hacc := (later_moves).trans _ _ _ hacc hRh
  replace kr := kr.below hacc kr.lt
  replace kf := kf.below hacc kf.lt
  replace ks := ks.below hacc ks.lt
  replace hb0 := below_chain hb0 hacc
  have c2 := ks.cell
  have f2 := ks.frozen
  go_simp
  refine ⟨fun h => Bool.noConfusion h, ?_⟩
  have hg := set3_grown (w := wh) (g := g) (.int .u64 0) (.int .u64 0) (.int .u64 (c0 : Int))
  have kz := set3_blk ks (.int .u64 0) (.int .u64 0) (.int .u64 (c0 : Int))
  replace kr := kr.grown hg (fun e => by have := Option.some.inj e; omega)
  replace kf := kf.grown hg (fun e => by have := Option.some.inj e; omega)
  replace hb0 := hb0.trans (below_of_only hg hb0.size (by omega))
  clear c2 f2 ks hg hacc hRh
  generalize ((World.setCell wh _ _).setCell _ _).setCell _ _ = w4 at kz kr kf hb0 ⊢
  have ks : Blk w4 g 120 (St.mk 0 0 c0).cs := kz
  clear kz
  refine wpGO_doneP rfl ?_
  go_wp2_with fail
  go_loopw [9] (fun y wr => ∃ (i : Nat) (q : St), i ≤ l.length + 1 ∧ y = .int .i64 (i : Int) ∧ Blk wr w.heap.size 120 #[.int .u64 0, .int .u64 0, .int .u64 0] ∧ Blk wr (w.heap.size + 1) 88 #[.int .u64 (p : Int)] ∧ Blk wr g 120 q.cs ∧ Below w.heap.size w wr ∧ Hid (absP p (l.drop i) q = fin)) (fun y _ => l.length - (intOf y).toNat)
  case atStart => exact ⟨0, ⟨0, 0, c0⟩, by omega, rfl, kr, kf, ks, hb0, HF.out.symm⟩
  case round =>
    clear kr kf ks hb0
    obtain ⟨i, q, hi, rfl, kr, kf, ks, hb0, HI⟩ := hrel
    obtain ⟨qa, qb, qc⟩ := q
    have ks2 : Blk wr g 120 #[.int .u64 (qa : Int), .int .u64 (qb : Int), .int .u64 (qc : Int)] := ks
    replace ks := ks2
    clear ks2
    by_cases hi1 : i < l.length
    · have hx := lw_getD hlt hi1
      obtain ⟨bb, bq, eA, hbl, cl⟩ := lw_get (hrd.below hb0) hi1
      have HLT := Lib.hid hlt
      have HRD := Lib.hid hrd
      have HI1 := Lib.hid hi1
      have g1 : (0 : Int) ≤ (i : Int) := by omega
      have g2 : (i : Int) < (l.length : Int) := by omega
      by_cases hi2 : i + 1 < l.length
      · obtain ⟨bb2, bq2, eA2, hbl2, cl2⟩ := lw_get (hrd.below hb0) hi2
        have HD := Lib.hid (drop_two hi2)
        obtain ⟨i1, hi1e⟩ : ∃ i1, i1 = i + 1 := ⟨_, rfl⟩
        have e1 : (i : Int) + 1 = (i1 : Int) := by omega
        have e2 : IntKind.i64.wrap ((i : Int) + 1) = (i1 : Int) := by rw [IntKind.wrap_i64]; omega
        have e3 : IntKind.i64.wrap (i1 : Int) = (i1 : Int) := by rw [IntKind.wrap_i64]; omega
        have g4 : (0 : Int) ≤ (i1 : Int) := by omega
        have g3 : (i1 : Int) < (l.length : Int) := by omega
        have HI2 := Lib.hid (show i1 < l.length by omega)
        have HI1E := Lib.hid hi1e
        rw [eA] at eA2
        have eA3 := Option.some.inj eA2
        injection eA3 with e5 e6
        subst e5 e6
        subst eA
        clear eA2 hbl2
        have HIF := Lib.hid (show absP p (l.getD i 0 :: l.getD (i + 1) 0 :: l.drop (i + 2)) ⟨qa, qb, qc⟩ = fin by rw [← HD.out]; exact HI.out)
        clear HD hlt hrd hi2 hx hi1e
        obtain ⟨y, hy⟩ : ∃ y, y = l.getD (i + 1) 0 := ⟨_, rfl⟩
        generalize l.getD i 0 = x at *
        rw [← hy] at HIF cl2
        have HY := Lib.hid hy.symm
        clear hy
        have HA1 := Lib.hid (fun w => HA.out qa x w)
        have HA2 := Lib.hid (fun w => HA.out qb y w)
        obtain ⟨na, hna⟩ : ∃ na, na = (qa + x) % p := ⟨_, rfl⟩
        obtain ⟨nb, hnb⟩ : ∃ nb, nb = (qb + y) % p := ⟨_, rfl⟩
        rw [← hna] at HA1
        rw [← hnb] at HA2
        obtain ⟨z, hz⟩ : ∃ z, z = permP p ⟨na, nb, qc⟩ := ⟨_, rfl⟩
        have HX := Lib.hid (show ∀ w, Calls Try.prog 98 #[.int .u64 p, .agg #[.int .u64 (na : Int), .int .u64 (nb : Int), .int .u64 (qc : Int)]] w fun e w' => e = .returned (.agg #[.int .u64 (z.a : Int), .int .u64 (z.b : Int), .int .u64 (z.c : Int)]) ∧ Below w.heap.size w w' from fun w => by rw [hz]; exact HP.out ⟨na, nb, qc⟩ w)
        have HZ := Lib.hid (show absP p (l.drop (i + 2)) z = fin by rw [hz]; rw [hna, hnb]; exact HIF.out)
        clear hz
        clear HIF hna hnb
        have cs := ks.cell
        have ls := ks.lt
        have cf := kf.cell
        have lf := kf.lt
        have cl2H := Lib.hid cl2
        clear cl2
        go_wp2_with fail
        refine wpGO_begin (Later) (later_moves) [9] [9] [0, 1, 2, 3, 4, 5, 6, 7, 8, 9] (by kernel_rfl) (by kernel_rfl) ?_
        refine wpGO_start (later_moves) ?_
        intro Wc hacc
        repeat (first | (refine wpGO_skip (later_moves) rfl rfl rfl rfl (fun _ _ _ h => h) ?_ ; simp only [Act.put, List.setIfInBounds_toArray, List.set_cons_zero, List.set_cons_succ]) | (refine wpGO_light (v := ?_) (later_moves) rfl rfl rfl rfl (fun _ _ _ h => h) ?_ ?_ ; rotate_left ; (· (intro w' hR ; (first | have hcells := later_cellsD ((later_moves).trans _ _ _ hacc hR) | skip) ; go_simp ; try with_reducible rfl)) ; simp only [Act.put, List.setIfInBounds_toArray, List.set_cons_zero, List.set_cons_succ]) | (refine wpGO_free (v := ?_) rfl rfl rfl rfl (fun _ _ _ h => h) ?_ ?_ ; rotate_left ; (· (intro w' ; go_simp ; try with_reducible rfl)) ; simp only [Act.put, List.setIfInBounds_toArray, List.set_cons_zero, List.set_cons_succ]))
        refine wpGO_call (later_moves) rfl rfl rfl rfl (fun _ _ _ h => h) (fun _ => by go_simp <;> rfl) (fun w' hR => HA1.out _) ?_
        simp only [Act.put, List.setIfInBounds_toArray, List.set_cons_zero, List.set_cons_succ]
        repeat (first | (refine wpGO_skip (later_moves) rfl rfl rfl rfl (fun _ _ _ h => h) ?_ ; simp only [Act.put, List.setIfInBounds_toArray, List.set_cons_zero, List.set_cons_succ]) | (refine wpGO_light (v := ?_) (later_moves) rfl rfl rfl rfl (fun _ _ _ h => h) ?_ ?_ ; rotate_left ; (· (intro w' hR ; (first | have hcells := later_cellsD ((later_moves).trans _ _ _ hacc hR) | skip) ; go_simp ; try with_reducible rfl)) ; simp only [Act.put, List.setIfInBounds_toArray, List.set_cons_zero, List.set_cons_succ]) | (refine wpGO_free (v := ?_) rfl rfl rfl rfl (fun _ _ _ h => h) ?_ ?_ ; rotate_left ; (· (intro w' ; go_simp ; try with_reducible rfl)) ; simp only [Act.put, List.setIfInBounds_toArray, List.set_cons_zero, List.set_cons_succ]))
        refine wpGO_heavy rfl rfl rfl rfl ?_
        intro wh hRh
        replace hacc := (later_moves).trans _ _ _ hacc hRh
        replace kr := kr.drew.below hacc kr.lt
        replace ks := ks.drew.below hacc ks.lt
        replace kf := kf.drew.below hacc kf.lt
        replace hb0 := below_chain hb0.drew hacc
        clear cs cf lf ls hacc hRh cl
        have c2 := ks.cell
        have f2 := ks.frozen
        go_simp
        refine ⟨fun h => Bool.noConfusion h, ?_⟩
        have hg : wh.grownBy (wh.setCell ⟨g, 0, none⟩ (.int .u64 (na : Int))) (some g) := grown_setCell' (p := ⟨g, 0, none⟩) (grown_refl' wh _) (.inl rfl) _
        replace ks := ks.set_ 0 (.int .u64 (na : Int))
        simp at ks
        replace kr := kr.grown hg (fun e => by have := Option.some.inj e; omega)
        replace kf := kf.grown hg (fun e => by have := Option.some.inj e; omega)
        replace hb0 := hb0.trans (below_of_only hg hb0.size (by omega))
        clear hg c2 f2
        generalize wh.setCell _ _ = Wf0 at ks kr hb0 kf ⊢
        refine wpGO_doneP rfl ?_
        have cl2 : Wf0.cell? ⟨bb, bq + i1, none⟩ = some (.int .u64 (y : Int)) := by obtain ⟨b3, q3, e3, -, h3⟩ := lw_get (HRD.out.below hb0) HI2.out; have e4 := Option.some.inj e3; injection e4 with e5 e6; subst e5 e6; rw [h3, HI1E.out, HY.out]
        have hbl2 : bb < Wf0.heap.size := World.block_lt_of_cell? _ _ cl2
        have cs := ks.cell
        have ls := ks.lt
        have cf := kf.cell
        have lf := kf.lt
        go_wp2_with fail
        refine wpGO_begin (Later) (later_moves) [10] [10] [0, 1, 2, 3, 4, 5, 6, 7, 8, 9, 10] (by kernel_rfl) (by kernel_rfl) ?_
        refine wpGO_start (later_moves) ?_
        intro Wc hacc
        repeat (first | (refine wpGO_skip (later_moves) rfl rfl rfl rfl (fun _ _ _ h => h) ?_ ; simp only [Act.put, List.setIfInBounds_toArray, List.set_cons_zero, List.set_cons_succ]) | (refine wpGO_light (v := ?_) (later_moves) rfl rfl rfl rfl (fun _ _ _ h => h) ?_ ?_ ; rotate_left ; (· (intro w' hR ; (first | have hcells := later_cellsD ((later_moves).trans _ _ _ hacc hR) | skip) ; go_simp ; try with_reducible rfl)) ; simp only [Act.put, List.setIfInBounds_toArray, List.set_cons_zero, List.set_cons_succ]) | (refine wpGO_free (v := ?_) rfl rfl rfl rfl (fun _ _ _ h => h) ?_ ?_ ; rotate_left ; (· (intro w' ; go_simp ; try with_reducible rfl)) ; simp only [Act.put, List.setIfInBounds_toArray, List.set_cons_zero, List.set_cons_succ]))
        refine wpGO_call (later_moves) rfl rfl rfl rfl (fun _ _ _ h => h) (fun _ => by go_simp <;> rfl) (fun w' hR => HA2.out _) ?_
        simp only [Act.put, List.setIfInBounds_toArray, List.set_cons_zero, List.set_cons_succ]
        repeat (first | (refine wpGO_skip (later_moves) rfl rfl rfl rfl (fun _ _ _ h => h) ?_ ; simp only [Act.put, List.setIfInBounds_toArray, List.set_cons_zero, List.set_cons_succ]) | (refine wpGO_light (v := ?_) (later_moves) rfl rfl rfl rfl (fun _ _ _ h => h) ?_ ?_ ; rotate_left ; (· (intro w' hR ; (first | have hcells := later_cellsD ((later_moves).trans _ _ _ hacc hR) | skip) ; go_simp ; try with_reducible rfl)) ; simp only [Act.put, List.setIfInBounds_toArray, List.set_cons_zero, List.set_cons_succ]) | (refine wpGO_free (v := ?_) rfl rfl rfl rfl (fun _ _ _ h => h) ?_ ?_ ; rotate_left ; (· (intro w' ; go_simp ; try with_reducible rfl)) ; simp only [Act.put, List.setIfInBounds_toArray, List.set_cons_zero, List.set_cons_succ]))
        refine wpGO_heavy rfl rfl rfl rfl ?_
        intro wh hRh
        replace hacc := (later_moves).trans _ _ _ hacc hRh
        replace kr := kr.drew.below hacc kr.lt
        replace ks := ks.drew.below hacc ks.lt
        replace kf := kf.drew.below hacc kf.lt
        replace hb0 := below_chain hb0.drew hacc
        clear cs cf lf ls hacc hRh cl2
        have c2 := ks.cell
        have f2 := ks.frozen
        go_simp
        refine ⟨fun h => Bool.noConfusion h, ?_⟩
        have hg : wh.grownBy (wh.setCell ⟨g, 1, none⟩ (.int .u64 (nb : Int))) (some g) := grown_setCell' (p := ⟨g, 1, none⟩) (grown_refl' wh _) (.inl rfl) _
        replace ks := ks.set_ 1 (.int .u64 (nb : Int))
        simp at ks
        replace kr := kr.grown hg (fun e => by have := Option.some.inj e; omega)
        replace kf := kf.grown hg (fun e => by have := Option.some.inj e; omega)
        replace hb0 := hb0.trans (below_of_only hg hb0.size (by omega))
        clear hg c2 f2
        generalize wh.setCell _ _ = Wf1 at ks kr hb0 kf ⊢
        refine wpGO_doneP rfl ?_
        have cs := ks.cell
        go_wp2_with fail
        refine (HX.out _).mono ?_
        rintro e w5 ⟨rfl, hb5⟩
        replace kr := kr.below hb5 kr.lt
        replace ks := ks.below hb5 ks.lt
        replace kf := kf.below hb5 kf.lt
        replace hb0 := below_chain hb0 hb5
        clear cs hb5
        have cs := ks.cell
        have fs := ks.frozen
        go_wp2_with fail
        have hg := set3_grown (w := w5) (g := g) (.int .u64 (z.a : Int)) (.int .u64 (z.b : Int)) (.int .u64 (z.c : Int))
        have kz := set3_blk ks (.int .u64 (z.a : Int)) (.int .u64 (z.b : Int)) (.int .u64 (z.c : Int))
        replace kr := kr.grown hg (fun e => by have := Option.some.inj e; omega)
        replace kf := kf.grown hg (fun e => by have := Option.some.inj e; omega)
        replace hb0 := hb0.trans (below_of_only hg hb0.size (by omega))
        clear hg cs fs ks
        generalize ((World.setCell w5 _ _).setCell _ _).setCell _ _ = Wz at kz kr hb0 kf ⊢
        go_roundw
        case rel => exact ⟨i + 2, z, by omega, by go_num, kr, kf, kz, hb0, HZ.out⟩
        case measure => simp [intOf]; omega
      · have hi3 : i + 1 = l.length := by omega
        have HD := Lib.hid (drop_one hi3)
        have g3 : ¬ ((i : Int) + 1 < (l.length : Int)) := by omega
        subst eA
        have HIF := Lib.hid (show absP p [l.getD i 0] ⟨qa, qb, qc⟩ = fin by rw [← HD.out]; exact HI.out)
        have HDN := Lib.hid (show l.drop (i + 2) = [] from List.drop_of_length_le (by omega))
        clear HD hlt hrd hx
        generalize l.getD i 0 = x at *
        have HA1 := Lib.hid (fun w => HA.out qa x w)
        obtain ⟨na, hna⟩ : ∃ na, na = (qa + x) % p := ⟨_, rfl⟩
        rw [← hna] at HA1
        obtain ⟨z, hz⟩ : ∃ z, z = permP p ⟨na, qb, qc⟩ := ⟨_, rfl⟩
        have HX := Lib.hid (show ∀ w, Calls Try.prog 98 #[.int .u64 p, .agg #[.int .u64 (na : Int), .int .u64 (qb : Int), .int .u64 (qc : Int)]] w fun e w' => e = .returned (.agg #[.int .u64 (z.a : Int), .int .u64 (z.b : Int), .int .u64 (z.c : Int)]) ∧ Below w.heap.size w w' from fun w => by rw [hz]; exact HP.out ⟨na, qb, qc⟩ w)
        have HZ := Lib.hid (show absP p (l.drop (i + 2)) z = fin by rw [hz]; rw [HDN.out, hna]; exact HIF.out)
        clear hz
        clear HIF HDN hi2 hi3 hna
        have cs := ks.cell
        have ls := ks.lt
        have cf := kf.cell
        have lf := kf.lt
        go_wp2_with fail
        refine wpGO_begin (Later) (later_moves) [9] [9] [0, 1, 2, 3, 4, 5, 6, 7, 8, 9] (by kernel_rfl) (by kernel_rfl) ?_
        refine wpGO_start (later_moves) ?_
        intro Wc hacc
        repeat (first | (refine wpGO_skip (later_moves) rfl rfl rfl rfl (fun _ _ _ h => h) ?_ ; simp only [Act.put, List.setIfInBounds_toArray, List.set_cons_zero, List.set_cons_succ]) | (refine wpGO_light (v := ?_) (later_moves) rfl rfl rfl rfl (fun _ _ _ h => h) ?_ ?_ ; rotate_left ; (· (intro w' hR ; (first | have hcells := later_cellsD ((later_moves).trans _ _ _ hacc hR) | skip) ; go_simp ; try with_reducible rfl)) ; simp only [Act.put, List.setIfInBounds_toArray, List.set_cons_zero, List.set_cons_succ]) | (refine wpGO_free (v := ?_) rfl rfl rfl rfl (fun _ _ _ h => h) ?_ ?_ ; rotate_left ; (· (intro w' ; go_simp ; try with_reducible rfl)) ; simp only [Act.put, List.setIfInBounds_toArray, List.set_cons_zero, List.set_cons_succ]))
        refine wpGO_call (later_moves) rfl rfl rfl rfl (fun _ _ _ h => h) (fun _ => by go_simp <;> rfl) (fun w' hR => HA1.out _) ?_
        simp only [Act.put, List.setIfInBounds_toArray, List.set_cons_zero, List.set_cons_succ]
        repeat (first | (refine wpGO_skip (later_moves) rfl rfl rfl rfl (fun _ _ _ h => h) ?_ ; simp only [Act.put, List.setIfInBounds_toArray, List.set_cons_zero, List.set_cons_succ]) | (refine wpGO_light (v := ?_) (later_moves) rfl rfl rfl rfl (fun _ _ _ h => h) ?_ ?_ ; rotate_left ; (· (intro w' hR ; (first | have hcells := later_cellsD ((later_moves).trans _ _ _ hacc hR) | skip) ; go_simp ; try with_reducible rfl)) ; simp only [Act.put, List.setIfInBounds_toArray, List.set_cons_zero, List.set_cons_succ]) | (refine wpGO_free (v := ?_) rfl rfl rfl rfl (fun _ _ _ h => h) ?_ ?_ ; rotate_left ; (· (intro w' ; go_simp ; try with_reducible rfl)) ; simp only [Act.put, List.setIfInBounds_toArray, List.set_cons_zero, List.set_cons_succ]))
        refine wpGO_heavy rfl rfl rfl rfl ?_
        intro wh hRh
        replace hacc := (later_moves).trans _ _ _ hacc hRh
        replace kr := kr.drew.below hacc kr.lt
        replace ks := ks.drew.below hacc ks.lt
        replace kf := kf.drew.below hacc kf.lt
        replace hb0 := below_chain hb0.drew hacc
        clear cs cf lf ls hacc hRh cl
        have c2 := ks.cell
        have f2 := ks.frozen
        go_simp
        refine ⟨fun h => Bool.noConfusion h, ?_⟩
        have hg : wh.grownBy (wh.setCell ⟨g, 0, none⟩ (.int .u64 (na : Int))) (some g) := grown_setCell' (p := ⟨g, 0, none⟩) (grown_refl' wh _) (.inl rfl) _
        replace ks := ks.set_ 0 (.int .u64 (na : Int))
        simp at ks
        replace kr := kr.grown hg (fun e => by have := Option.some.inj e; omega)
        replace kf := kf.grown hg (fun e => by have := Option.some.inj e; omega)
        replace hb0 := hb0.trans (below_of_only hg hb0.size (by omega))
        clear hg c2 f2
        generalize wh.setCell _ _ = Wf0 at ks kr hb0 kf ⊢
        refine wpGO_doneP rfl ?_
        have cs := ks.cell
        go_wp2_with fail
        refine (HX.out _).mono ?_
        rintro e w5 ⟨rfl, hb5⟩
        replace kr := kr.below hb5 kr.lt
        replace ks := ks.below hb5 ks.lt
        replace kf := kf.below hb5 kf.lt
        replace hb0 := below_chain hb0 hb5
        clear cs hb5
        have cs := ks.cell
        have fs := ks.frozen
        go_wp2_with fail
        have hg := set3_grown (w := w5) (g := g) (.int .u64 (z.a : Int)) (.int .u64 (z.b : Int)) (.int .u64 (z.c : Int))
        have kz := set3_blk ks (.int .u64 (z.a : Int)) (.int .u64 (z.b : Int)) (.int .u64 (z.c : Int))
        replace kr := kr.grown hg (fun e => by have := Option.some.inj e; omega)
        replace kf := kf.grown hg (fun e => by have := Option.some.inj e; omega)
        replace hb0 := hb0.trans (below_of_only hg hb0.size (by omega))
        clear hg cs fs ks
        generalize ((World.setCell w5 _ _).setCell _ _).setCell _ _ = Wz at kz kr hb0 kf ⊢
        go_roundw
        case rel => exact ⟨i + 2, z, by omega, by go_num, kr, kf, kz, hb0, HZ.out⟩
        case measure => simp [intOf]; omega
    · have HQ := Lib.hid (show (⟨qa, qb, qc⟩ : St) = fin by have := HI.out; rw [List.drop_of_length_le (by omega)] at this; exact this)
      have g2 : ¬ ((i : Int) < (l.length : Int)) := by omega
      have cs := ks.cell
      have cr := kr.cell
      have fr := kr.frozen
      clear hrd hlt
      go_wp2_with fail
      have hg := set3_grown (w := wr) (g := w.heap.size) (.int .u64 (qa : Int)) (.int .u64 (qb : Int)) (.int .u64 (qc : Int))
      have kz := set3_blk kr (.int .u64 (qa : Int)) (.int .u64 (qb : Int)) (.int .u64 (qc : Int))
      clear cs cr fr kr ks
      generalize ((World.setCell wr _ _).setCell _ _).setCell _ _ = Wz at hg kz ⊢
      have cz := kz.cell
      exact bodyPost_ret (v := .agg #[.int .u64 (qa : Int), .int .u64 (qb : Int), .int .u64 (qc : Int)]) (by simp [results, Try.results97, go_sem, cz]) rfl ⟨by rw [← HQ.out]; rfl, hb0.trans (below_of_only hg hb0.size (Nat.le_refl _))⟩
end Go.Proofs.Ytefnagiffllhbaa

/- SqA -/
namespace Go.Proofs.Ytefnagiffllhbaa
open Go.RowKit

/-- The state after some permutations. -/
def perI (p : Nat) (s : St) : Nat → St
  | 0 => s
  | m + 1 => permP p (perI p s m)
/-- Output k. -/
def sqAt (p : Nat) (s : St) (k : Nat) : Nat := (perI p s (k / 2)).at_ (k % 2)
theorem sq_next (f : Nat → Nat) (n k : Nat) : fillC n (putF (fun i => if i < k then f i else 0) k (f k)) = fillC n fun i => if i < k + 1 then f i else 0 := by
  refine fill_same fun i _ => ?_
  simp only [putF]
  by_cases h : i = k
  · subst h; rw [if_pos rfl, if_pos (by omega)]
  · rw [if_neg h]
    by_cases h2 : i < k
    · rw [if_pos h2, if_pos (by omega)]
    · rw [if_neg h2, if_neg (by omega)]

set_option maxRecDepth 100000 in
set_option maxHeartbeats 1000000 in
theorem pSqueeze_any (p label : Nat) (A : Option Addr) (n c m : Nat) (l : List Nat) (w : World) (hp : okP p = true) (hl : RWd w [.slice A n c] l) (hne : 0 < l.length) (hlen : l.length ≤ 1000000) (hm : m ≤ 65536) :
    Calls Try.prog 61 #[.int .u64 p, .int .u64 label, .slice A n c, .int .i64 (m : Int)] w fun e w' => ∃ g, e = .returned (.slice (some ⟨g, 0, none⟩) m m) ∧ w.heap.size ≤ g ∧ Blk w' g 22 (fillC m (sqAt p (absorbP p label l))) ∧ Below w.heap.size w w' := by
  have HV := Lib.hid (fun w => fValid_any p w hp)
  have HAb := Lib.hid (fun w' (hb : Below w.heap.size w w') => pAbsorb_any p label A n c l w' hp (kept_RWd _ _ _ _ hb hl) hne hlen)
  have HP := Lib.hid (fun s w => pPermute_any p s w hp)
  have hmk := fun w => mk_words m (by omega) w
  have g0 : ¬ ((m : Int) < 0) := by omega
  have g1 : (m : Int) ≤ 65536 := by omega
  clear hl hne hlen hp
  generalize absorbP p label l = s at *
  unfold fv at *
  go_enter Try.func61, Try.ntmps61
  go_wp2_with fail
  refine (HV.out _).mono ?_
  rintro e w1 ⟨rfl, hb1⟩
  go_wp2_with fail
  refine (HAb.out _ hb1).mono ?_
  rintro e w2 ⟨rfl, hb2⟩
  have hb0 := below_chain hb1 hb2
  have ev : s.val = .agg #[.int .u64 (s.a : Int), .int .u64 (s.b : Int), .int .u64 (s.c : Int)] := rfl
  rw [ev]
  obtain ⟨ks0, kg, hba, hsz⟩ := boxes2 w2 120 22 #[.int .u64 (s.a : Int), .int .u64 (s.b : Int), .int .u64 (s.c : Int)] (fillC m fun _ => 0)
  have hs2 := hb0.size
  replace hb0 := below_chain hb0 hba
  clear ev hb1 hb2 hba
  generalize hz : fillC m (fun _ => 0) = zc at *
  go_upto_region 5 with fail
  generalize (w2.alloc _).alloc _ = w3 at ks0 kg hb0 hsz ⊢
  generalize w2.heap.size = gs at *
  clear hsz
  have ks : Blk w3 gs 120 (perI p s ((0 - 1) / 2)).cs := ks0
  rw [← hz, show fillC m (fun _ => 0) = fillC m (fun k => if k < 0 then sqAt p s k else 0) from fill_same fun i _ => by rw [if_neg (by omega)]] at kg
  clear hz ks0
  go_wp2_with fail
  go_loopw [32] (fun y wr => ∃ i : Nat, i ≤ m ∧ y = .int .i64 (i : Int) ∧ Blk wr gs 120 (perI p s ((i - 1) / 2)).cs ∧ Blk wr (gs + 1) 22 (fillC m fun k => if k < i then sqAt p s k else 0) ∧ Below w.heap.size w wr) (fun y _ => m - (intOf y).toNat)
  case atStart => exact ⟨0, Nat.zero_le _, rfl, ks, kg, hb0⟩
  case round =>
    clear ks kg hb0
    obtain ⟨i, hi, rfl, ks, kg, hb0⟩ := hrel
    by_cases hlt : i < m
    · have g2 : (i : Int) < (m : Int) := by omega
      have g3 : (0 : Int) ≤ (i : Int) := by omega
      obtain ⟨sv, hsv⟩ : ∃ sv, sv = sqAt p s i := ⟨_, rfl⟩
      obtain ⟨j, hj⟩ : ∃ j, j = i % 2 := ⟨_, rfl⟩
      have hj3 : j < 3 := by omega
      have ej : (i : Int) % 2 = (j : Int) := by omega
      have ej2 : (i : Int).tmod 2 = (j : Int) := by rw [Int.tmod_eq_emod_of_nonneg (by omega)]; exact ej
      have HSQ := Lib.hid (show (perI p s (i / 2)).at_ j = sv by rw [hj, hsv]; rfl)
      have HSV := Lib.hid hsv.symm
      clear hsv
      rcases (show i = 0 ∨ i % 2 = 1 ∨ (0 < i ∧ i % 2 = 0) by omega) with h0 | h1 | ⟨h2, h3⟩
      · have d1 : ¬ ((0 : Int) < (i : Int)) := by omega
        have d2 : decide ((0 : Int) < (i : Int)) = false := decide_eq_false d1
        rw [show (i - 1) / 2 = i / 2 by omega] at ks
        have H0 := Lib.hid h0
        clear h0 hj
        have cj := ks.cell j
        rw [St.cs_at _ hj3] at cj
        have ci := kg.cell i
        rw [fill_get _ hlt] at ci
        rw [HSQ.out] at cj
        have fi := kg.frozen i
        generalize (if i < i then sqAt p s i else 0) = old at ci
        go_wp2_with fail
        have hg : wr.grownBy (wr.setCell ⟨gs + 1, i, none⟩ (.int .u64 (sv : Int))) (some (gs + 1)) := grown_setCell' (p := ⟨gs + 1, i, none⟩) (grown_refl' wr _) (.inl rfl) _
        replace kg := kg.set_ i (.int .u64 (sv : Int))
        have HN : (fillC m fun k => if k < i then sqAt p s k else 0).setIfInBounds i (.int .u64 (sv : Int)) = fillC m (fun k => if k < i + 1 then sqAt p s k else 0) := by rw [fill_set, ← HSV.out, sq_next]
        rw [HN] at kg
        replace ks := ks.grown hg (fun e => by have := Option.some.inj e; omega)
        replace hb0 := hb0.trans (below_of_only hg hb0.size (by omega))
        clear hg fi ci cj
        go_roundw
        case rel => exact ⟨i + 1, by omega, by go_num, by rw [show (i + 1 - 1) / 2 = i / 2 by omega]; exact ks, kg, hb0⟩
        case measure => simp [intOf]; omega
      · have d1 : (0 : Int) < (i : Int) := by omega
        have d3 : ((j : Int) == 0) = false := by rw [beq_eq_false_iff_ne]; omega
        rw [show (i - 1) / 2 = i / 2 by omega] at ks
        clear h1 hj
        have cj := ks.cell j
        rw [St.cs_at _ hj3] at cj
        have ci := kg.cell i
        rw [fill_get _ hlt] at ci
        rw [HSQ.out] at cj
        have fi := kg.frozen i
        generalize (if i < i then sqAt p s i else 0) = old at ci
        go_wp2_with fail
        have hg : wr.grownBy (wr.setCell ⟨gs + 1, i, none⟩ (.int .u64 (sv : Int))) (some (gs + 1)) := grown_setCell' (p := ⟨gs + 1, i, none⟩) (grown_refl' wr _) (.inl rfl) _
        replace kg := kg.set_ i (.int .u64 (sv : Int))
        have HN : (fillC m fun k => if k < i then sqAt p s k else 0).setIfInBounds i (.int .u64 (sv : Int)) = fillC m (fun k => if k < i + 1 then sqAt p s k else 0) := by rw [fill_set, ← HSV.out, sq_next]
        rw [HN] at kg
        replace ks := ks.grown hg (fun e => by have := Option.some.inj e; omega)
        replace hb0 := hb0.trans (below_of_only hg hb0.size (by omega))
        clear hg fi ci cj
        go_roundw
        case rel => exact ⟨i + 1, by omega, by go_num, by rw [show (i + 1 - 1) / 2 = i / 2 by omega]; exact ks, kg, hb0⟩
        case measure => simp [intOf]; omega
      · have d1 : (0 : Int) < (i : Int) := by omega
        have d3 : ((j : Int) == 0) = true := by rw [beq_iff_eq]; omega
        obtain ⟨q, hq⟩ : ∃ q, q = perI p s ((i - 1) / 2) := ⟨_, rfl⟩
        rw [← hq] at ks
        obtain ⟨z, hz⟩ : ∃ z, z = permP p q := ⟨_, rfl⟩
        have HZ := Lib.hid (show perI p s (i / 2) = z by rw [show i / 2 = (i - 1) / 2 + 1 by omega, perI, ← hq, hz])
        have HX := Lib.hid (show ∀ w, Calls Try.prog 98 #[.int .u64 p, .agg #[.int .u64 (q.a : Int), .int .u64 (q.b : Int), .int .u64 (q.c : Int)]] w fun e w' => e = .returned (.agg #[.int .u64 (z.a : Int), .int .u64 (z.b : Int), .int .u64 (z.c : Int)]) ∧ Below w.heap.size w w' from fun w => by rw [hz]; exact HP.out q w)
        have ks2 : Blk wr gs 120 #[.int .u64 (q.a : Int), .int .u64 (q.b : Int), .int .u64 (q.c : Int)] := ks
        clear h2 h3 hj hq hz ks
        have cs := ks2.cell
        go_wp2_with fail
        refine (HX.out _).mono ?_
        rintro e w5 ⟨rfl, hb5⟩
        replace ks2 := ks2.below hb5 ks2.lt
        replace kg := kg.below hb5 kg.lt
        replace hb0 := below_chain hb0 hb5
        clear cs hb5
        have cs := ks2.cell
        have fs := ks2.frozen
        go_upto_region 10 with fail
        have hg := set3_grown (w := w5) (g := gs) (.int .u64 (z.a : Int)) (.int .u64 (z.b : Int)) (.int .u64 (z.c : Int))
        have ks : Blk _ gs 120 z.cs := set3_blk ks2 (.int .u64 (z.a : Int)) (.int .u64 (z.b : Int)) (.int .u64 (z.c : Int))
        replace kg := kg.grown hg (fun e => by have := Option.some.inj e; omega)
        replace hb0 := hb0.trans (below_of_only hg hb0.size (by omega))
        clear hg cs fs ks2
        generalize ((World.setCell w5 _ _).setCell _ _).setCell _ _ = W8 at ks kg hb0 ⊢
        rw [← HZ.out] at ks
        have cj := ks.cell j
        rw [St.cs_at _ hj3] at cj
        have ci := kg.cell i
        rw [fill_get _ hlt] at ci
        rw [HSQ.out] at cj
        have fi := kg.frozen i
        generalize (if i < i then sqAt p s i else 0) = old at ci
        go_wp2_with fail
        have hg : W8.grownBy (W8.setCell ⟨gs + 1, i, none⟩ (.int .u64 (sv : Int))) (some (gs + 1)) := grown_setCell' (p := ⟨gs + 1, i, none⟩) (grown_refl' W8 _) (.inl rfl) _
        replace kg := kg.set_ i (.int .u64 (sv : Int))
        have HN : (fillC m fun k => if k < i then sqAt p s k else 0).setIfInBounds i (.int .u64 (sv : Int)) = fillC m (fun k => if k < i + 1 then sqAt p s k else 0) := by rw [fill_set, ← HSV.out, sq_next]
        rw [HN] at kg
        replace ks := ks.grown hg (fun e => by have := Option.some.inj e; omega)
        replace hb0 := hb0.trans (below_of_only hg hb0.size (by omega))
        clear hg fi ci cj
        go_roundw
        case rel => exact ⟨i + 1, by omega, by go_num, by rw [show (i + 1 - 1) / 2 = i / 2 by omega]; exact ks, kg, hb0⟩
        case measure => simp [intOf]; omega
    · obtain rfl : i = m := by omega
      rw [show fillC i (fun k => if k < i then sqAt p s k else 0) = fillC i (sqAt p s) from fill_same fun k hk => by rw [if_pos hk]] at kg
      go_wp2
      go_ret
      exact ⟨gs + 1, rfl, by omega, kg, hb0⟩
end Go.Proofs.Ytefnagiffllhbaa
